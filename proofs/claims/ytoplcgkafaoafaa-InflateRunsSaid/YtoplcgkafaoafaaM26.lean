/- Steps of the proof: the walks of the functions that the statement reaches; printed by a program of ours. -/
import Derived.Test.YtoplcgkafaoafaaStPlain
import Derived.Test.YtoplcgkafaoafaaSl19
/-
  Canonical codes, plainly: the symbols by their words, each word.
-/
namespace Go.HuffP
set_option linter.unusedVariables false
set_option linter.unusedSimpArgs false
/-- Symbols of a length, rising. -/
def cls (ls : List Int) (n : Nat) : List Int := ((List.range ls.length).filter (fun i => decide (ls.getD i 0 = (n : Int)))).map (fun i : Nat => (i : Int))
def ordN (ls : List Int) : Nat → List Int
  | 0 => []
  | n + 1 => ordN ls n ++ cls ls (n + 1)
def ord (ls : List Int) : List Int := ordN ls 15
def off (ls : List Int) : Nat → Nat
  | 0 => 0
  | n + 1 => (ordN ls n).length
/-- How many words of each length. -/
def cnt (ls : List Int) (n : Nat) : Int := if n = 0 then 0 else ((cls ls n).length : Int)
def cntL (ls : List Int) : List Int := (List.range 16).map (cnt ls)
def base (ls : List Int) : Nat → Int
  | 0 => 0
  | n + 1 => 2 * (base ls n + cnt ls n)
def lenOf (ls : List Int) (s : Nat) : Nat := (ls.getD s 0).toNat
def wordOf (ls : List Int) (s : Nat) : Int := base ls (lenOf ls s) + ((cls (ls.take s) (lenOf ls s)).length : Int)
def Vl (ls : List Int) : Prop := ls.length ≤ 320 ∧ ∀ x ∈ ls, 0 ≤ x ∧ x ≤ 15

theorem cntL_len (ls : List Int) : (cntL ls).length = 16 := by simp [cntL]
theorem cntL_get {ls : List Int} {n : Nat} (h : n < 16) : (cntL ls).getD n 0 = cnt ls n := by simp [cntL, List.getD_eq_getElem?_getD, h]
theorem cls_len_le (ls : List Int) (n : Nat) : (cls ls n).length ≤ ls.length := by
  unfold cls
  have := List.length_filter_le (fun i => decide (ls.getD i 0 = (n : Int))) (List.range ls.length)
  simpa using this
theorem cnt_nonneg (ls : List Int) (n : Nat) : 0 ≤ cnt ls n := by unfold cnt; split <;> omega
theorem cnt_le (ls : List Int) (n : Nat) : cnt ls n ≤ ls.length := by
  have := cls_len_le ls n
  unfold cnt; split <;> omega
theorem getD_take {ls : List Int} {i k : Nat} (h : i < k) : (ls.take k).getD i 0 = ls.getD i 0 := by
  simp [List.getD_eq_getElem?_getD, List.getElem?_take, h]
theorem cls_snoc {ls : List Int} {k n : Nat} (h : k < ls.length) : cls (ls.take (k + 1)) n = cls (ls.take k) n ++ (if ls[k] = (n : Int) then [(k : Int)] else []) := by
  unfold cls
  have e1 : (ls.take (k + 1)).length = k + 1 := by simp; omega
  have e2 : (ls.take k).length = k := by simp; omega
  rw [e1, e2, List.range_succ, List.filter_append, List.map_append]
  congr 1
  · congr 1
    apply List.filter_congr
    intro i hi
    have hi := List.mem_range.1 hi
    rw [getD_take (by omega), getD_take hi]
  · have : (ls.take (k + 1)).getD k 0 = ls[k] := by rw [getD_take (by omega)]; simp [List.getD_eq_getElem?_getD, h]
    by_cases he : ls[k] = (n : Int)
    · simp only [List.filter_cons, List.filter_nil, this, he, decide_true, decide_false, if_true, if_false, List.map_cons, List.map_nil]; try rfl
    · simp only [List.filter_cons, List.filter_nil, this, he, decide_true, decide_false, if_true, if_false, List.map_cons, List.map_nil]; try rfl
theorem cls_zero (n : Nat) : cls [] n = [] := by simp [cls]
theorem cnt_snoc {ls : List Int} {k n : Nat} (h : k < ls.length) : cnt (ls.take (k + 1)) n = cnt (ls.take k) n + (if n ≠ 0 ∧ ls[k] = (n : Int) then 1 else 0) := by
  unfold cnt
  by_cases h0 : n = 0
  · simp [h0]
  · rw [if_neg h0, if_neg h0, cls_snoc h]
    by_cases he : ls[k] = (n : Int)
    · simp [he, h0]
    · simp [he]
theorem cntL_snoc {ls : List Int} {k : Nat} (h : k < ls.length) (h1 : 0 < ls[k]) (h2 : ls[k] ≤ 15) : cntL (ls.take (k + 1)) = (cntL (ls.take k)).set ls[k].toNat ((cntL (ls.take k)).getD ls[k].toNat 0 + 1) := by
  apply List.ext_getElem?
  intro i
  by_cases hi : i < 16
  · rw [List.getElem?_set]
    by_cases he : ls[k].toNat = i
    · rw [if_pos he, if_pos (by rw [cntL_len]; omega), he, cntL_get hi]
      simp only [cntL, List.getElem?_map, List.getElem?_range hi, Option.map_some]
      rw [cnt_snoc h, if_pos ⟨by omega, by omega⟩]
    · rw [if_neg he]
      simp only [cntL, List.getElem?_map, List.getElem?_range hi, Option.map_some]
      rw [cnt_snoc h, if_neg (fun hh => he (by omega))]
      simp
  · rw [List.getElem?_eq_none (by rw [cntL_len]; omega), List.getElem?_eq_none (by rw [List.length_set, cntL_len]; omega)]
theorem cntL_same {ls : List Int} {k : Nat} (h : k < ls.length) (h1 : ls[k] = 0) : cntL (ls.take (k + 1)) = cntL (ls.take k) := by
  unfold cntL
  apply List.map_congr_left
  intro i _
  rw [cnt_snoc h, if_neg (fun hh => hh.1 (by omega))]
  simp
theorem cntL_nil : cntL [] = List.replicate 16 0 := by
  have : cnt [] = fun _ => 0 := by funext n; simp [cnt, cls_zero]
  unfold cntL
  rw [this]
  rfl
/-- Symbols that have a word, rising. -/
def posn (ls : List Int) : List Int := ((List.range ls.length).filter (fun i => decide (0 < ls.getD i 0))).map (fun i : Nat => (i : Int))
theorem posn_snoc {ls : List Int} {k : Nat} (h : k < ls.length) : posn (ls.take (k + 1)) = posn (ls.take k) ++ (if 0 < ls[k] then [(k : Int)] else []) := by
  unfold posn
  have e1 : (ls.take (k + 1)).length = k + 1 := by simp; omega
  have e2 : (ls.take k).length = k := by simp; omega
  rw [e1, e2, List.range_succ, List.filter_append, List.map_append]
  congr 1
  · congr 1
    apply List.filter_congr
    intro i hi
    have hi := List.mem_range.1 hi
    rw [getD_take (by omega), getD_take hi]
  · have : (ls.take (k + 1)).getD k 0 = ls[k] := by rw [getD_take (by omega)]; simp [List.getD_eq_getElem?_getD, h]
    by_cases he : 0 < ls[k]
    · simp only [List.filter_cons, List.filter_nil, this, he, decide_true, decide_false, if_true, if_false, List.map_cons, List.map_nil]; try rfl
    · simp only [List.filter_cons, List.filter_nil, this, he, decide_true, decide_false, if_true, if_false, List.map_cons, List.map_nil]; try rfl
theorem posn_le (ls : List Int) : (posn ls).length ≤ ls.length := by
  unfold posn
  have := List.length_filter_le (fun i => decide (0 < ls.getD i 0)) (List.range ls.length)
  simpa using this
/-- What is left of the tree behind n levels. -/
def left (C : List Int) : Nat → Int
  | 0 => 1
  | n + 1 => 2 * left C n - C.getD (n + 1) 0
def wholeB (C : List Int) (all : Int) : Bool := (List.range 15).all (fun n => decide (0 ≤ left C (n + 1))) && (decide (left C 15 = 0) || decide (all = 0) || (decide (all = 1) && decide (C.getD 1 0 = 1)))
theorem left_le {C : List Int} (hC : ∀ i, 0 ≤ C.getD i 0) : ∀ n, left C n ≤ 2 ^ n
  | 0 => by simp [left]
  | n + 1 => by
    have h := left_le hC n
    have := hC (n + 1)
    simp only [left]
    rw [Int.pow_succ]
    omega
theorem left_bound {C : List Int} (hC : ∀ i, 0 ≤ C.getD i 0) {n : Nat} (hn : n ≤ 15) : left C n ≤ 32768 := by
  refine Int.le_trans (left_le hC n) ?_
  have : (2 : Nat) ^ n ≤ 2 ^ 15 := Nat.pow_le_pow_right (by decide) hn
  have e : ((2 : Int) ^ n) = ((2 ^ n : Nat) : Int) := by simp
  rw [e]
  omega
theorem whole_no {C : List Int} {all : Int} {n : Nat} (h1 : 1 ≤ n) (h2 : n ≤ 15) (h : left C n < 0) : wholeB C all = false := by
  unfold wholeB
  have : (List.range 15).all (fun n => decide (0 ≤ left C (n + 1))) = false := by
    rw [List.all_eq_false]
    exact ⟨n - 1, List.mem_range.2 (by omega), by rw [show n - 1 + 1 = n by omega]; simpa using h⟩
  rw [this]; rfl
theorem whole_yes {C : List Int} {all : Int} (h : ∀ n, 1 ≤ n → n ≤ 15 → 0 ≤ left C n) : wholeB C all = (decide (left C 15 = 0) || decide (all = 0) || (decide (all = 1) && decide (C.getD 1 0 = 1))) := by
  unfold wholeB
  have : (List.range 15).all (fun n => decide (0 ≤ left C (n + 1))) = true := by
    rw [List.all_eq_true]
    intro x hx
    have := List.mem_range.1 hx
    simpa using h (x + 1) (by omega) (by omega)
  rw [this]; rfl
theorem left_nn {C : List Int} {k : Nat} (hno : ∀ m, 1 ≤ m → m ≤ k → 0 ≤ left C m) : 0 ≤ left C k := by
  rcases Nat.eq_zero_or_pos k with e | e
  · subst e; simp [left]
  · exact hno k e (Nat.le_refl _)
theorem left_next {C : List Int} {k : Nat} : 2 * left C k - C.getD ((k : Int) + 1).toNat 0 = left C (k + 1) := by
  rw [show ((k : Int) + 1).toNat = k + 1 by omega]; rfl
theorem left_more {C : List Int} {k : Nat} (hno : ∀ m, 1 ≤ m → m ≤ k → 0 ≤ left C m) (h : ¬ 2 * left C k - C.getD ((k : Int) + 1).toNat 0 < 0) : ∀ m, 1 ≤ m → m ≤ k + 1 → 0 ≤ left C m := by
  intro m h1 h2
  rcases Nat.lt_or_ge m (k + 1) with h3 | h3
  · exact hno m h1 (by omega)
  · obtain rfl : m = k + 1 := by omega
    rw [left_next] at h
    omega
theorem whole_end {C : List Int} {all : Int} {k : Nat} (hk : k ≤ 15) (h8 : ¬ ((k : Int) + 1 ≤ 15)) (hno : ∀ m, 1 ≤ m → m ≤ k → 0 ≤ left C m) : wholeB C all = (decide (left C k = 0) || decide (all = 0) || (decide (all = 1) && decide (C.getD (Int.toNat 1) 0 = 1))) := by
  obtain rfl : k = 15 := by omega
  exact whole_yes hno
/-- Are lengths as they may be? -/
def okB (ls : List Int) : Bool := ls.all (fun x => decide (0 ≤ x ∧ x ≤ 15))
def newE (ls : List Int) : Int := if 320 < ls.length then 1 else if okB ls = true then (if wholeB (cntL ls) ((posn ls).length : Int) = true then 0 else 4) else 1
def mostL (ls : List Int) : Int := ls.foldl (fun a x => if a < x then x else a) 0

/-! ### The order -/
theorem cls_mem {ls : List Int} {n : Nat} {x : Int} : x ∈ cls ls n ↔ 0 ≤ x ∧ x.toNat < ls.length ∧ ls.getD x.toNat 0 = (n : Int) := by
  unfold cls
  simp only [List.mem_map, List.mem_filter, List.mem_range, decide_eq_true_eq]
  constructor
  · rintro ⟨i, ⟨h1, h2⟩, rfl⟩
    exact ⟨by omega, by simpa using h1, by simpa using h2⟩
  · rintro ⟨h1, h2, h3⟩
    exact ⟨x.toNat, ⟨h2, h3⟩, by omega⟩
theorem ordN_mem {ls : List Int} {x : Int} : ∀ {n : Nat}, x ∈ ordN ls n ↔ ∃ m, 1 ≤ m ∧ m ≤ n ∧ x ∈ cls ls m
  | 0 => by simp [ordN]; omega
  | n + 1 => by
    simp only [ordN, List.mem_append, ordN_mem (n := n)]
    constructor
    · rintro (⟨m, h1, h2, h3⟩ | h)
      · exact ⟨m, h1, by omega, h3⟩
      · exact ⟨n + 1, by omega, Nat.le_refl _, h⟩
    · rintro ⟨m, h1, h2, h3⟩
      by_cases e : m = n + 1
      · subst e; exact .inr h3
      · exact .inl ⟨m, h1, by omega, h3⟩
theorem ord_mem {ls : List Int} (hv : Vl ls) {x : Int} : x ∈ ord ls ↔ 0 ≤ x ∧ x.toNat < ls.length ∧ 0 < ls.getD x.toNat 0 := by
  unfold ord
  rw [ordN_mem]
  constructor
  · rintro ⟨m, h1, h2, h3⟩
    obtain ⟨a, b, c⟩ := cls_mem.1 h3
    exact ⟨a, b, by omega⟩
  · rintro ⟨h1, h2, h3⟩
    have h4 := hv.2 (ls.getD x.toNat 0) (by simp [List.getD_eq_getElem?_getD, h2])
    refine ⟨(ls.getD x.toNat 0).toNat, by omega, by omega, cls_mem.2 ⟨h1, h2, by omega⟩⟩
theorem off_succ (ls : List Int) {n : Nat} (h : 1 ≤ n) : off ls (n + 1) = off ls n + (cls ls n).length := by
  obtain ⟨m, rfl⟩ : ∃ m, n = m + 1 := ⟨n - 1, by omega⟩
  simp [off, ordN]
theorem off_cnt (ls : List Int) (n : Nat) : (off ls (n + 1) : Int) = off ls n + cnt ls n := by
  rcases Nat.eq_zero_or_pos n with h | h
  · subst h; simp [off, ordN, cnt]
  · rw [off_succ ls h]
    unfold cnt
    rw [if_neg (by omega)]
    omega
theorem ordN_pre (ls : List Int) {m n : Nat} (h : m ≤ n) : ∃ t, ordN ls n = ordN ls m ++ t := by
  induction n with
  | zero =>
    obtain rfl : m = 0 := by omega
    exact ⟨[], by simp⟩
  | succ n ih =>
    by_cases e : m = n + 1
    · subst e; exact ⟨[], by simp⟩
    · obtain ⟨t, ht⟩ := ih (by omega)
      exact ⟨t ++ cls ls (n + 1), by simp [ordN, ht]⟩
theorem off_mono (ls : List Int) {m n : Nat} (h : m ≤ n) : off ls m ≤ off ls n := by
  induction n with
  | zero =>
    obtain rfl : m = 0 := by omega
    exact Nat.le_refl _
  | succ n ih =>
    by_cases e : m = n + 1
    · subst e; exact Nat.le_refl _
    · have := ih (by omega)
      have h2 := off_cnt ls n
      have h3 := cnt_nonneg ls n
      omega
theorem ord_len (ls : List Int) : (ord ls).length = off ls 16 := rfl
/-- Where a symbol stands. -/
theorem ord_get {ls : List Int} {n r : Nat} (h1 : 1 ≤ n) (h2 : n ≤ 15) (h : r < (cls ls n).length) : (ord ls).getD (off ls n + r) 0 = (cls ls n).getD r 0 := by
  obtain ⟨t, ht⟩ := ordN_pre ls (show n ≤ 15 from h2)
  obtain ⟨m, rfl⟩ : ∃ m, n = m + 1 := ⟨n - 1, by omega⟩
  have e : ord ls = ordN ls m ++ cls ls (m + 1) ++ t := by unfold ord; rw [ht]; rfl
  rw [e, List.append_assoc]
  simp only [List.getD_eq_getElem?_getD, off]
  rw [List.getElem?_append_right (by omega), List.getElem?_append_left (by omega)]
  congr 2
  omega
theorem ord_cls {ls : List Int} {p : Nat} (h : p < (ord ls).length) : ∃ n r, 1 ≤ n ∧ n ≤ 15 ∧ r < (cls ls n).length ∧ p = off ls n + r := by
  have key : ∀ n, p < off ls (n + 1) → ∃ m r, 1 ≤ m ∧ m ≤ n ∧ r < (cls ls m).length ∧ p = off ls m + r := by
    intro n
    induction n with
    | zero => intro h; simp [off, ordN] at h
    | succ n ih =>
      intro h
      by_cases h2 : p < off ls (n + 1)
      · obtain ⟨m, r, a, b, c, d⟩ := ih h2
        exact ⟨m, r, a, by omega, c, d⟩
      · have := off_succ ls (n := n + 1) (by omega)
        exact ⟨n + 1, p - off ls (n + 1), by omega, Nat.le_refl _, by omega, by omega⟩
  exact key 15 h
theorem cls_take {ls : List Int} {s n : Nat} (h : s < ls.length) (hn : ls.getD s 0 = (n : Int)) : ∃ t, cls ls n = cls (ls.take s) n ++ ((s : Int) :: t) := by
  have e : ls = ls.take (s + 1) ++ ls.drop (s + 1) := (List.take_append_drop _ _).symm
  have key : ∀ k, s + 1 + k ≤ ls.length → ∃ t, cls (ls.take (s + 1 + k)) n = cls (ls.take s) n ++ ((s : Int) :: t) := by
    intro k
    induction k with
    | zero =>
      intro _
      refine ⟨[], ?_⟩
      rw [Nat.add_zero, cls_snoc h, if_pos (by rw [← hn]; simp [List.getD_eq_getElem?_getD, h])]
    | succ k ih =>
      intro hk
      obtain ⟨t, ht⟩ := ih (by omega)
      refine ⟨t ++ (if ls[s + 1 + k] = (n : Int) then [((s + 1 + k : Nat) : Int)] else []), ?_⟩
      rw [show s + 1 + (k + 1) = (s + 1 + k) + 1 by omega, cls_snoc (show s + 1 + k < ls.length by omega), ht]
      simp
  obtain ⟨t, ht⟩ := key (ls.length - (s + 1)) (by omega)
  rw [show s + 1 + (ls.length - (s + 1)) = ls.length by omega, List.take_length] at ht
  exact ⟨t, ht⟩
theorem cls_nodup (ls : List Int) (n : Nat) : (cls ls n).Nodup := by
  unfold cls
  have h : ((List.range ls.length).filter (fun i => decide (ls.getD i 0 = (n : Int)))).Nodup := List.Pairwise.filter _ List.nodup_range
  rw [List.Nodup, List.pairwise_map]
  exact List.Pairwise.imp (fun {a b} hab he => hab (Int.ofNat.inj he)) h
/-- The word of the symbol that stands at p. -/
theorem word_at {ls : List Int} {n r : Nat} (h1 : 1 ≤ n) (h2 : n ≤ 15) (h : r < (cls ls n).length) :
    ∃ s : Nat, (ord ls).getD (off ls n + r) 0 = (s : Int) ∧ s < ls.length ∧ ls.getD s 0 = (n : Int) ∧ lenOf ls s = n ∧ wordOf ls s = base ls n + r := by
  have hr0 : (cls ls n)[r]? = some ((cls ls n).getD r 0) := by simp [List.getD_eq_getElem?_getD, h]
  have hm : (cls ls n).getD r 0 ∈ cls ls n := List.mem_of_getElem? hr0
  obtain ⟨a, b, c⟩ := cls_mem.1 hm
  obtain ⟨s, hs⟩ : ∃ s : Nat, (cls ls n).getD r 0 = (s : Int) := ⟨((cls ls n).getD r 0).toNat, by omega⟩
  rw [hs] at hr0 b c
  simp only [Int.toNat_natCast] at b c
  have hl : lenOf ls s = n := by unfold lenOf; rw [c]; omega
  refine ⟨s, by rw [ord_get h1 h2 h, hs], b, c, hl, ?_⟩
  unfold wordOf
  rw [hl]
  congr 1
  obtain ⟨t, ht⟩ := cls_take b c
  have hidx : (cls ls n)[(cls (ls.take s) n).length]? = some (s : Int) := by
    rw [ht, List.getElem?_append_right (Nat.le_refl _), Nat.sub_self]
    rfl
  have := (List.getElem?_inj (List.getElem?_eq_some_iff.1 hr0).1 (cls_nodup ls n)).1 (hr0.trans hidx.symm)
  omega
theorem base_far {ls : List Int} {m n : Nat} (h : m ≤ n) (hz : ∀ k, m < k → k < n → cnt ls k = 0) (hmn : m < n) : base ls n = (base ls m + cnt ls m) * 2 ^ (n - m) := by
  induction n with
  | zero => omega
  | succ n ih =>
    by_cases e : m = n
    · subst e
      rw [show m + 1 - m = 1 by omega]
      simp only [base]
      omega
    · have := ih (by omega) (fun k k1 k2 => hz k k1 (by omega)) (by omega)
      simp only [base]
      rw [this, hz n (by omega) (by omega), show n + 1 - m = (n - m) + 1 by omega, Int.pow_succ]
      rw [Int.add_zero, Int.mul_comm 2, Int.mul_assoc]
/-- The next word: behind the one ahead, moved up by what it is longer. -/
theorem next_word {ls : List Int} {p : Nat} (hp : p + 1 < (ord ls).length) : ∃ s t : Nat, (ord ls).getD p 0 = (s : Int) ∧ (ord ls).getD (p + 1) 0 = (t : Int) ∧ s < ls.length ∧ t < ls.length ∧ 1 ≤ lenOf ls s ∧ lenOf ls s ≤ lenOf ls t ∧ lenOf ls t ≤ 15 ∧ ls.getD s 0 = (lenOf ls s : Int) ∧ ls.getD t 0 = (lenOf ls t : Int) ∧ wordOf ls t = (wordOf ls s + 1) * 2 ^ (lenOf ls t - lenOf ls s) := by
  obtain ⟨m, r, m1, m2, hr, e1⟩ := ord_cls (show p < (ord ls).length by omega)
  obtain ⟨n, q, n1, n2, hq, e2⟩ := ord_cls hp
  obtain ⟨s, s1, s2, s3, s4, s5⟩ := word_at m1 m2 hr
  obtain ⟨t, t1, t2, t3, t4, t5⟩ := word_at n1 n2 hq
  have hmn : m ≤ n := by
    rcases Nat.lt_or_ge n m with h | h
    · exfalso
      have := off_mono ls (show n + 1 ≤ m from h)
      have := off_succ ls n1
      omega
    · exact h
  refine ⟨s, t, by rw [e1]; exact s1, by rw [e2]; exact t1, s2, t2, by omega, by omega, by omega, by rw [s4]; exact s3, by rw [t4]; exact t3, ?_⟩
  rw [s4, t4, s5, t5]
  by_cases e : m = n
  · subst e
    rw [Nat.sub_self]
    simp
    omega
  · have h3 := off_mono ls (show m + 1 ≤ n by omega)
    have h4 := off_succ ls m1
    have hq0 : q = 0 := by omega
    have hrl : r + 1 = (cls ls m).length := by omega
    subst hq0
    have hz : ∀ k, m < k → k < n → cnt ls k = 0 := by
      intro k k1 k2
      have h5 := off_mono ls (show m + 1 ≤ k by omega)
      have h6 := off_mono ls (show k + 1 ≤ n by omega)
      have h7 := off_cnt ls k
      have h8 := cnt_nonneg ls k
      omega
    have hc : cnt ls m = (r : Int) + 1 := by unfold cnt; rw [if_neg (by omega)]; omega
    rw [base_far hmn hz (by omega), hc]
    simp [Int.add_assoc]
theorem first_word {ls : List Int} (hp : 0 < (ord ls).length) : ∃ t : Nat, (ord ls).getD 0 0 = (t : Int) ∧ t < ls.length ∧ 1 ≤ lenOf ls t ∧ lenOf ls t ≤ 15 ∧ ls.getD t 0 = (lenOf ls t : Int) ∧ wordOf ls t = 0 := by
  obtain ⟨n, q, n1, n2, hq, e2⟩ := ord_cls hp
  obtain ⟨t, t1, t2, t3, t4, t5⟩ := word_at n1 n2 hq
  refine ⟨t, by rw [e2]; exact t1, t2, by omega, by omega, by rw [t4]; exact t3, ?_⟩
  have hz : ∀ k, 0 < k → k < n → cnt ls k = 0 := by
    intro k k1 k2
    have h6 := off_mono ls (show k + 1 ≤ n by omega)
    have h7 := off_cnt ls k
    have h8 := cnt_nonneg ls k
    omega
  rw [t5, base_far (Nat.zero_le n) hz (by omega)]
  simp [base, cnt]
  omega
end Go.HuffP

/-
  Canonical codes, plainly: the sort leaves the order; the words one after the other.
-/
namespace Go.HuffP
set_option linter.unusedVariables false
set_option linter.unusedSimpArgs false
open Go.StS
abbrev key (ls : List Int) (x : Int) : Int := ls.getD x.toNat 0
theorem filt_map (l : List Nat) (q : Nat → Bool) (p : Int → Bool) : ((l.filter q).map (fun i : Nat => (i : Int))).filter p = (l.filter (fun i => q i && p (i : Int))).map (fun i : Nat => (i : Int)) := by
  rw [List.filter_map, List.filter_filter]
  congr 2
  funext i
  simp [Bool.and_comm]
theorem filt_cls (ls : List Int) (m : Nat) (c : Int) : (cls ls m).filter (fun x => decide (key ls x = c)) = if (m : Int) = c then cls ls m else [] := by
  by_cases h : (m : Int) = c
  · rw [if_pos h, List.filter_eq_self]
    intro x hx
    have := (cls_mem.1 hx).2.2
    simpa [h] using this.trans h
  · rw [if_neg h, List.filter_eq_nil_iff]
    intro x hx
    have := (cls_mem.1 hx).2.2
    simp only [decide_eq_true_eq]
    intro e
    exact h (this.symm.trans e)
theorem filt_ord (ls : List Int) (c : Int) : ∀ n : Nat, (ordN ls n).filter (fun x => decide (key ls x = c)) = if 1 ≤ c ∧ c ≤ (n : Int) then cls ls c.toNat else []
  | 0 => by rw [if_neg (by omega)]; rfl
  | n + 1 => by
    simp only [ordN]
    rw [List.filter_append, filt_ord ls c n, filt_cls]
    by_cases h : ((n + 1 : Nat) : Int) = c
    · rw [if_neg (by omega), if_pos h, if_pos (by omega), List.nil_append, ← h]
      rfl
    · rw [if_neg h, List.append_nil]
      by_cases h2 : 1 ≤ c ∧ c ≤ (n : Int)
      · rw [if_pos h2, if_pos (by omega)]
      · rw [if_neg h2, if_neg (by omega)]
theorem filt_posn {ls : List Int} (hv : ∀ x ∈ ls, 0 ≤ x ∧ x ≤ 15) (c : Int) : (posn ls).filter (fun x => decide (key ls x = c)) = if 1 ≤ c ∧ c ≤ 15 then cls ls c.toNat else [] := by
  unfold posn
  rw [filt_map]
  by_cases h : 1 ≤ c ∧ c ≤ 15
  · rw [if_pos h]
    unfold cls
    congr 1
    apply List.filter_congr
    intro i hi
    simp only [key, Int.toNat_natCast]
    by_cases e : ls.getD i 0 = c
    · have e2 : ls.getD i 0 = ((c.toNat : Nat) : Int) := by omega
      have e3 : 0 < ls.getD i 0 := by omega
      simp only [e, e2, decide_true, Bool.and_true, decide_eq_true_eq]
      simp; omega
    · have e2 : ¬ ls.getD i 0 = ((c.toNat : Nat) : Int) := by omega
      rw [decide_eq_false e, decide_eq_false e2, Bool.and_false]
  · rw [if_neg h]
    simp only [List.map_eq_nil_iff]
    rw [List.filter_eq_nil_iff]
    intro i hi hp
    have hi := List.mem_range.1 hi
    simp only [key, Int.toNat_natCast, Bool.and_eq_true, decide_eq_true_eq] at hp
    have := hv (ls.getD i 0) (by simp [List.getD_eq_getElem?_getD, hi])
    omega
theorem ord_sd (ls : List Int) : Sd (key ls) 0 (ord ls) 0 (ord ls).length := by
  have : ∀ n, Sd (key ls) 0 (ordN ls n) 0 (ordN ls n).length ∧ ∀ x ∈ ordN ls n, key ls x ≤ (n : Int) := by
    intro n
    induction n with
    | zero => exact ⟨Sd.small (by simp [ordN]), fun x hx => by simp [ordN] at hx⟩
    | succ n ih =>
      have hle : ∀ x ∈ ordN ls n, key ls x ≤ (n : Int) := ih.2
      have hcl : ∀ x ∈ cls ls (n + 1), key ls x = ((n + 1 : Nat) : Int) := fun x hx => (cls_mem.1 hx).2.2
      refine ⟨?_, ?_⟩
      · simp only [ordN, List.length_append]
        refine Sd.join (m := (ordN ls n).length) ?_ ?_ ?_
        · exact ih.1.congr (fun i _ h => getD_app1 h)
        · intro i j i1 i2 i3
          rw [getD_app2 i1, getD_app2 (by omega), hcl _ (getD_mem (by omega)), hcl _ (getD_mem (by omega))]
          exact Int.le_refl _
        · intro i j i1 i2 i3 i4
          rw [getD_app1 i2, getD_app2 i3, hcl _ (getD_mem (by omega))]
          have := hle _ (getD_mem (d := 0) i2)
          omega
      · intro x hx
        simp only [ordN, List.mem_append] at hx
        rcases hx with hx | hx
        · have := hle x hx; omega
        · have := hcl x hx; omega
  exact (this 15).1
theorem sort_ord {ls l2 : List Int} (hv : ∀ x ∈ ls, 0 ≤ x ∧ x ≤ 15) (hR : Rl (key ls) 0 (posn ls) l2 0 (posn ls).length) (hS : Sd (key ls) 0 l2 0 (posn ls).length) : l2 = ord ls := by
  refine unique (d := 0) (by rw [hR.len]; exact hS) (ord_sd ls) (fun c => ?_)
  rw [hR.same c, filt_posn hv]
  unfold ord
  rw [filt_ord]
  rfl
theorem posn_mem {ls : List Int} {x : Int} : x ∈ posn ls ↔ 0 ≤ x ∧ x.toNat < ls.length ∧ 0 < ls.getD x.toNat 0 := by
  unfold posn
  simp only [List.mem_map, List.mem_filter, List.mem_range, decide_eq_true_eq]
  constructor
  · rintro ⟨i, ⟨h1, h2⟩, rfl⟩
    exact ⟨by omega, by simpa using h1, by simpa using h2⟩
  · rintro ⟨h1, h2, h3⟩
    exact ⟨x.toNat, ⟨h2, h3⟩, by omega⟩
theorem cast_nodup {l : List Nat} (h : l.Nodup) : (l.map (fun i : Nat => (i : Int))).Nodup := by
  rw [List.Nodup, List.pairwise_map]
  exact List.Pairwise.imp (fun {a b} hab he => hab (Int.ofNat.inj he)) h
theorem posn_nodup (ls : List Int) : (posn ls).Nodup := cast_nodup (List.Pairwise.filter _ List.nodup_range)
theorem ordN_nodup (ls : List Int) : ∀ n, (ordN ls n).Nodup
  | 0 => by simp [ordN]
  | n + 1 => by
    simp only [ordN]
    rw [List.nodup_append]
    refine ⟨ordN_nodup ls n, cls_nodup ls _, ?_⟩
    intro a ha b hb e
    subst e
    obtain ⟨m, m1, m2, m3⟩ := ordN_mem.1 ha
    have h1 := (cls_mem.1 m3).2.2
    have h2 := (cls_mem.1 hb).2.2
    omega
theorem posn_len {ls : List Int} (hv : Vl ls) : (posn ls).length = (ord ls).length :=
  ((List.perm_ext_iff_of_nodup (posn_nodup ls) (ordN_nodup ls 15)).2 (fun x => by rw [posn_mem]; exact (ord_mem hv).symm)).length_eq
/-! ### The words one after the other -/
def nxt (ls : List Int) : Nat → Int
  | 0 => 0
  | k + 1 => wordOf ls ((ord ls).getD k 0).toNat + 1
def pln (ls : List Int) : Nat → Int
  | 0 => 0
  | k + 1 => (lenOf ls ((ord ls).getD k 0).toNat : Int)
theorem base_nn (ls : List Int) : ∀ n, 0 ≤ base ls n
  | 0 => by simp [base]
  | n + 1 => by
    have := base_nn ls n
    have := cnt_nonneg ls n
    simp only [base]
    omega
theorem left_base {ls : List Int} : ∀ n : Nat, n ≤ 15 → left (cntL ls) n = 2 ^ n - (base ls n + cnt ls n)
  | 0, _ => by simp [left, base, cnt]
  | n + 1, h => by
    simp only [left, base]
    rw [left_base n (by omega), cntL_get (by omega), Int.pow_succ]
    omega
theorem whole_left {C : List Int} {all : Int} (h : wholeB C all = true) {n : Nat} (hn : n ≤ 15) : 0 ≤ left C n := by
  rcases Nat.eq_zero_or_pos n with e | e
  · subst e; simp [left]
  · by_cases hl : left C n < 0
    · rw [whole_no e hn hl] at h
      cases h
    · omega
theorem word_lt {ls : List Int} {all : Int} (hw : wholeB (cntL ls) all = true) {n r : Nat} (h1 : 1 ≤ n) (h2 : n ≤ 15) (h : r < (cls ls n).length) : base ls n + (r : Int) < 2 ^ n := by
  have h3 := whole_left hw h2
  rw [left_base n h2] at h3
  have : cnt ls n = ((cls ls n).length : Int) := by unfold cnt; rw [if_neg (by omega)]
  omega
theorem pow_15 {n : Nat} (h : n ≤ 15) : (2 : Int) ^ n ≤ 32768 := by
  have : (2 : Nat) ^ n ≤ 2 ^ 15 := Nat.pow_le_pow_right (by decide) h
  have e : ((2 : Int) ^ n) = ((2 ^ n : Nat) : Int) := by simp
  rw [e]
  omega
/-- What is known of the symbol at k. -/
structure At (ls : List Int) (k : Nat) (s : Nat) : Prop where
  sym : (ord ls).getD k 0 = (s : Int)
  lt : s < ls.length
  one : 1 ≤ lenOf ls s
  top : lenOf ls s ≤ 15
  len : ls.getD s 0 = (lenOf ls s : Int)
  ge : pln ls k ≤ lenOf ls s
  nn : 0 ≤ pln ls k
  word : nxt ls k * 2 ^ (lenOf ls s - (pln ls k).toNat) = wordOf ls s
  w0 : 0 ≤ wordOf ls s
  w1 : wordOf ls s < 2 ^ lenOf ls s
theorem at_k {ls : List Int} {all : Int} (hw : wholeB (cntL ls) all = true) {k : Nat} (hk : k < (ord ls).length) : ∃ s, At ls k s := by
  obtain ⟨n, r, n1, n2, hr, e⟩ := ord_cls hk
  obtain ⟨t, t1, t2, t3, t4, t5⟩ := word_at n1 n2 hr
  have hlt := word_lt hw n1 n2 hr
  have hb := base_nn ls n
  cases k with
  | zero =>
    obtain ⟨s, s1, s2, s3, s4, s5, s6⟩ := first_word hk
    have hst : s = t := by rw [e] at s1; rw [t1] at s1; omega
    subst hst
    refine ⟨s, s1, s2, s3, s4, s5, by simp [pln], by simp [pln], by simp [nxt, s6], by omega, by rw [t4, t5]; exact hlt⟩
  | succ k =>
    obtain ⟨s, u, s1, u1, s2, u2, s3, s4, s5, s6, u6, u7⟩ := next_word hk
    have hut : u = t := by rw [e] at u1; rw [t1] at u1; omega
    subst hut
    refine ⟨u, u1, u2, by omega, s5, u6, by simp only [pln]; rw [s1]; simp; exact s4, by simp only [pln]; omega, ?_, by rw [t5]; omega, by rw [t4, t5]; exact hlt⟩
    simp only [nxt, pln]
    rw [s1, u7]
    simp
/-- The table of words. -/
def wd (ls : List Int) (s : Nat) : Int × Int := if 0 < lenOf ls s then (wordOf ls s, (lenOf ls s : Int)) else (0, 0)
def wordsK (ls : List Int) (k : Nat) : List (Int × Int) := (List.range ls.length).map (fun s : Nat => if (s : Int) ∈ (ord ls).take k then wd ls s else (0, 0))
def words (ls : List Int) : List (Int × Int) := (List.range ls.length).map (wd ls)
theorem wordsK_len (ls : List Int) (k : Nat) : (wordsK ls k).length = ls.length := by simp [wordsK]
theorem wordsK_zero (ls : List Int) : wordsK ls 0 = List.replicate ls.length (0, 0) := by
  simp [wordsK, List.map_const']
theorem wordsK_all {ls : List Int} (hv : Vl ls) {k : Nat} (hk : (ord ls).length ≤ k) : wordsK ls k = words ls := by
  unfold wordsK words
  rw [List.take_of_length_le hk]
  apply List.map_congr_left
  intro s hs
  have hs := List.mem_range.1 hs
  by_cases h : (s : Int) ∈ ord ls
  · rw [if_pos h]
  · rw [if_neg h]
    unfold wd
    rw [if_neg]
    intro h2
    exact h ((ord_mem hv).2 ⟨by omega, by simpa using hs, by simpa [lenOf] using h2⟩)
theorem wordsK_next {ls : List Int} {k s : Nat} (hk : k < (ord ls).length) (ha : At ls k s) : wordsK ls (k + 1) = (wordsK ls k).set s (wordOf ls s, (lenOf ls s : Int)) := by
  have e1 : (ord ls).take (k + 1) = (ord ls).take k ++ [(s : Int)] := by
    rw [List.take_succ_eq_append_getElem hk]
    congr 2
    have := ha.sym
    simpa [List.getD_eq_getElem?_getD, hk] using this
  apply List.ext_getElem?
  intro i
  rw [List.getElem?_set]
  by_cases hi : i < ls.length
  · by_cases e : s = i
    · subst e
      rw [if_pos rfl, if_pos (by rw [wordsK_len]; exact hi)]
      simp only [wordsK, List.getElem?_map, List.getElem?_range hi, Option.map_some]
      rw [if_pos (by rw [e1]; simp)]
      unfold wd
      rw [if_pos (by have := ha.one; omega)]
    · rw [if_neg e]
      simp only [wordsK, List.getElem?_map, List.getElem?_range hi, Option.map_some]
      by_cases hm : (i : Int) ∈ (ord ls).take k
      · rw [if_pos hm, if_pos (by rw [e1]; exact List.mem_append_left _ hm)]
      · rw [if_neg hm, if_neg]
        rw [e1]
        intro h
        rcases List.mem_append.1 h with h | h
        · exact hm h
        · have := List.mem_singleton.1 h
          omega
  · rw [List.getElem?_eq_none (by rw [wordsK_len]; omega)]
    have hs := ha.lt
    rw [if_neg (by omega), List.getElem?_eq_none (by rw [wordsK_len]; omega)]
/-! ### The lengths, one after the other -/
theorem most_snoc {ls : List Int} {k : Nat} (h : k < ls.length) : mostL (ls.take (k + 1)) = if mostL (ls.take k) < ls[k] then ls[k] else mostL (ls.take k) := by
  unfold mostL
  rw [List.take_succ_eq_append_getElem h, List.foldl_append]
  rfl
theorem most_nn (ls : List Int) : 0 ≤ mostL ls := by
  have : ∀ (l : List Int) (a : Int), 0 ≤ a → 0 ≤ l.foldl (fun a x => if a < x then x else a) a := by
    intro l
    induction l with
    | nil => intro a h; exact h
    | cons x l ih => intro a h; simp only [List.foldl_cons]; exact ih _ (by split <;> omega)
  exact this ls 0 (Int.le_refl _)
theorem ok_take {ls : List Int} {k : Nat} (h : ∀ i, i < k → 0 ≤ ls.getD i 0 ∧ ls.getD i 0 ≤ 15) (hk : ls.length ≤ k) : ∀ x ∈ ls, 0 ≤ x ∧ x ≤ 15 := by
  intro x hx
  obtain ⟨i, hi⟩ := List.getElem?_of_mem hx
  have hlt := (List.getElem?_eq_some_iff.1 hi).1
  have := h i (by omega)
  simpa [List.getD_eq_getElem?_getD, hi] using this
theorem cntL_bound {ls : List Int} (h : ls.length ≤ 320) : ∀ i, 0 ≤ (cntL ls).getD i 0 ∧ (cntL ls).getD i 0 ≤ 320 := by
  intro i
  rcases Nat.lt_or_ge i 16 with hi | hi
  · rw [cntL_get hi]
    have := cnt_nonneg ls i
    have := cnt_le ls i
    omega
  · rw [List.getD_eq_getElem?_getD, List.getElem?_eq_none (by rw [cntL_len]; exact hi)]
    simp
theorem posn_at (ls : List Int) : ∀ i, i < (posn ls).length → 0 ≤ (posn ls).getD i 0 ∧ (posn ls).getD i 0 < (ls.length : Int) := by
  intro i hi
  have := posn_mem.1 (getD_mem (d := 0) hi)
  omega
theorem ok_snoc {ls : List Int} {k : Nat} (hok : ∀ i, i < k → 0 ≤ ls.getD i 0 ∧ ls.getD i 0 ≤ 15) (h : 0 ≤ ls.getD k 0 ∧ ls.getD k 0 ≤ 15) : ∀ i, i < k + 1 → 0 ≤ ls.getD i 0 ∧ ls.getD i 0 ≤ 15 := by
  intro i hi
  by_cases e : i = k
  · subst e; exact h
  · exact hok i (by omega)
theorem step_zero {ls : List Int} {k : Nat} {x : Int} (h : k < ls.length) (hx : x = ls[k]) (h0 : x = 0) : cntL (ls.take (k + 1)) = cntL (ls.take k) ∧ posn (ls.take (k + 1)) = posn (ls.take k) ∧ mostL (ls.take (k + 1)) = mostL (ls.take k) := by
  have hz : ls[k] = 0 := by omega
  refine ⟨cntL_same h hz, ?_, ?_⟩
  · rw [posn_snoc h, if_neg (by omega), List.append_nil]
  · rw [most_snoc h, if_neg]
    have := most_nn (ls.take k)
    omega
theorem step_pos {ls : List Int} {k : Nat} {x : Int} (h : k < ls.length) (hx : x = ls[k]) (h0 : 0 < x) (h1 : x ≤ 15) : (cntL (ls.take k)).set x.toNat ((cntL (ls.take k)).getD x.toNat 0 + 1) = cntL (ls.take (k + 1)) ∧ posn (ls.take k) ++ [(k : Int)] = posn (ls.take (k + 1)) ∧ (posn (ls.take k)).length + 1 = (posn (ls.take (k + 1))).length ∧ (if mostL (ls.take k) < x then x else mostL (ls.take k)) = mostL (ls.take (k + 1)) := by
  subst hx
  refine ⟨(cntL_snoc h h0 h1).symm, ?_, ?_, (most_snoc h).symm⟩
  · rw [posn_snoc h, if_pos h0]
  · rw [posn_snoc h, if_pos h0]; simp
theorem posn_nil : posn [] = [] := rfl
theorem most_nil : mostL [] = 0 := rfl
theorem newE_long {ls : List Int} (h : 320 < ls.length) : newE ls = 1 := if_pos h
theorem newE_bad {ls : List Int} {k : Nat} (h : ¬ 320 < ls.length) (hk : k < ls.length) (hb : ls.getD k 0 < 0 ∨ 15 < ls.getD k 0) : newE ls = 1 := by
  unfold newE
  rw [if_neg h, if_neg]
  intro ho
  unfold okB at ho
  rw [List.all_eq_true] at ho
  have := ho (ls.getD k 0) (by simp [List.getD_eq_getElem?_getD, hk])
  simp only [decide_eq_true_eq] at this
  omega
theorem newE_ok {ls : List Int} (h : ¬ 320 < ls.length) (hv : ∀ x ∈ ls, 0 ≤ x ∧ x ≤ 15) : newE ls = if wholeB (cntL ls) ((posn ls).length : Int) = true then 0 else 4 := by
  unfold newE
  rw [if_neg h, if_pos]
  unfold okB
  rw [List.all_eq_true]
  intro x hx
  simpa using hv x hx
theorem newE_vl {ls : List Int} (h : newE ls = 0) : Vl ls ∧ wholeB (cntL ls) ((posn ls).length : Int) = true := by
  unfold newE at h
  split at h
  · omega
  · split at h
    · rename_i ho
      split at h
      · rename_i hw
        refine ⟨⟨by omega, ?_⟩, hw⟩
        unfold okB at ho
        rw [List.all_eq_true] at ho
        intro x hx
        simpa using ho x hx
      · omega
    · omega
/-! ### A symbol's word, asked -/
def lkW (ls : List Int) (x : Int) : Int := if 0 ≤ x ∧ x < ls.length then (wd ls x.toNat).1 else 0
def lkN (ls : List Int) (x : Int) : Int := if 0 ≤ x ∧ x < ls.length then (wd ls x.toNat).2 else 0
def lkB (ls : List Int) (x : Int) : Bool := decide (0 ≤ x ∧ x < ls.length ∧ (wd ls x.toNat).2 ≠ 0)
theorem wd_zero {ls : List Int} {s : Nat} (h : (wd ls s).2 = 0) : (wd ls s).1 = 0 := by
  unfold wd at h ⊢
  split at h
  · simp at h; omega
  · rename_i h2; rw [if_neg h2]
theorem lk_none {ls : List Int} {x : Int} (h : x < 0 ∨ (ls.length : Int) ≤ x ∨ (wd ls x.toNat).2 = 0) : lkW ls x = 0 ∧ lkN ls x = 0 ∧ lkB ls x = false := by
  unfold lkW lkN lkB
  by_cases hx : 0 ≤ x ∧ x < ls.length
  · have h3 : (wd ls x.toNat).2 = 0 := by omega
    rw [if_pos hx, if_pos hx, wd_zero h3, h3]
    exact ⟨rfl, rfl, by simp⟩
  · rw [if_neg hx, if_neg hx]
    refine ⟨rfl, rfl, ?_⟩
    rw [decide_eq_false_iff_not]
    omega
theorem lk_some {ls : List Int} {x : Int} (h0 : 0 ≤ x) (h1 : x < ls.length) (h : (wd ls x.toNat).2 ≠ 0) : lkW ls x = (wd ls x.toNat).1 ∧ lkN ls x = (wd ls x.toNat).2 ∧ lkB ls x = true := by
  unfold lkW lkN lkB
  rw [if_pos ⟨h0, h1⟩, if_pos ⟨h0, h1⟩]
  exact ⟨rfl, rfl, by simp [h0, h1, h]⟩
end Go.HuffP

/-
  Canonical codes, plainly: counts, the document's search of a word, shifts.
-/
namespace Go.HuffP
set_option linter.unusedVariables false
set_option linter.unusedSimpArgs false
def cntZ (ls : List Int) : List Int := (List.range 16).map (fun n => ((cls ls n).length : Int))
def sy (ls : List Int) (m i : Nat) : List Int := ordN ls m ++ cls (ls.take i) (m + 1)
end Go.HuffP
namespace Go.HuffP
set_option linter.unusedVariables false
set_option linter.unusedSimpArgs false
theorem wd_none {ls : List Int} {s : Nat} (h : ls.getD s 0 = 0) : (wd ls s).2 = 0 := by
  unfold wd
  rw [if_neg (by unfold lenOf; omega)]
def bk (ls : List Int) (n : Nat) : Nat → Int
  | 0 => base ls n
  | k + 1 => bk ls n k + 1
/-- What is known of a symbol that has a word. -/
structure Sy (ls : List Int) (x : Int) (L r : Nat) : Prop where
  one : 1 ≤ L
  top : L ≤ 15
  lt : r < (cls ls L).length
  get : (cls ls L).getD r 0 = x
  w : lkW ls x = base ls L + (r : Int)
  n : lkN ls x = (L : Int)
  b : lkB ls x = true
theorem sym_of {ls : List Int} (hV : Vl ls) {x : Int} (h0 : 0 ≤ x) (h1 : x < ls.length) (h : ls.getD x.toNat 0 ≠ 0) : ∃ L r, Sy ls x L r := by
  have hlt : x.toNat < ls.length := by omega
  have hb := hV.2 (ls.getD x.toNat 0) (by simp [List.getD_eq_getElem?_getD, hlt])
  have hlen : ls.getD x.toNat 0 = (lenOf ls x.toNat : Int) := by unfold lenOf; omega
  obtain ⟨t, ht⟩ := cls_take hlt hlen
  have hp : 0 < lenOf ls x.toNat := by omega
  have hw : wd ls x.toNat = (wordOf ls x.toNat, (lenOf ls x.toNat : Int)) := by unfold wd; rw [if_pos hp]
  obtain ⟨e1, e2, e3⟩ := lk_some h0 h1 (by rw [hw]; simp only; omega)
  refine ⟨lenOf ls x.toNat, (cls (ls.take x.toNat) (lenOf ls x.toNat)).length, by omega, by omega, ?_, ?_, ?_, ?_, e3⟩
  · rw [ht]; simp
  · rw [ht, List.getD_eq_getElem?_getD, List.getElem?_append_right (Nat.le_refl _), Nat.sub_self]
    simp
    omega
  · rw [e1, hw]; rfl
  · rw [e2, hw]
theorem cnt_cls (ls : List Int) (m : Nat) : cnt ls (m + 1) = ((cls ls (m + 1)).length : Int) := by unfold cnt; rw [if_neg (by omega)]
theorem off_le (ls : List Int) {m k : Nat} (hm : m < 15) (hk : k < (cls ls (m + 1)).length) : off ls (m + 1) + k < (ord ls).length := by
  have h1 := off_succ ls (n := m + 1) (by omega)
  have h2 := off_mono ls (show m + 1 + 1 ≤ 16 by omega)
  rw [ord_len]
  omega
theorem full_le {ls : List Int} {all : Int} (hw : wholeB (cntL ls) all = true) {n : Nat} (hn : n ≤ 15) : base ls n + cnt ls n ≤ 32768 := by
  have h3 := whole_left hw hn
  rw [left_base n hn] at h3
  have := pow_15 hn
  omega
end Go.HuffP
namespace Go.Sl
theorem shl_word {ls : List Int} {k s : Nat} (hs : HuffP.At ls k s) {x : Int} (hx : x = (HuffP.lenOf ls s : Int)) : IntKind.i64.wrap (HuffP.nxt ls k * 2 ^ (min (x - HuffP.pln ls k).toNat IntKind.i64.bits)) = HuffP.wordOf ls s := by
  have h1 := hs.top
  have h2 := hs.nn
  have h3 := hs.ge
  have h4 := hs.w0
  have h5 := hs.w1
  have h6 := HuffP.pow_15 hs.top
  have e : min (x - HuffP.pln ls k).toNat IntKind.i64.bits = HuffP.lenOf ls s - (HuffP.pln ls k).toNat := by
    have : IntKind.i64.bits = 64 := rfl
    omega
  rw [e, hs.word]
  exact wrapI (by omega) (by omega)
theorem shl_base {ls : List Int} {all : Int} (hw : HuffP.wholeB (HuffP.cntL ls) all = true) {m : Nat} (hm : m ≤ 15) : IntKind.i64.wrap ((HuffP.base ls m + HuffP.cnt ls m) * 2 ^ (min (1 : Int).toNat IntKind.i64.bits)) = HuffP.base ls (m + 1) := by
  have h1 := HuffP.full_le hw hm
  have h2 := HuffP.base_nn ls m
  have h3 := HuffP.cnt_nonneg ls m
  rw [show min (1 : Int).toNat IntKind.i64.bits = 1 from rfl]
  simp only [HuffP.base]
  rw [Int.mul_comm 2, Int.pow_one]
  exact wrapI (by omega) (by omega)
end Go.Sl

/-
  No word is the beginning of another one; the words fill the tree.
-/
namespace Go.HuffP
set_option linter.unusedVariables false
set_option linter.unusedSimpArgs false
theorem base_ge (ls : List Int) {m n : Nat} (h : m < n) : (base ls m + cnt ls m) * 2 ^ (n - m) ≤ base ls n := by
  induction n with
  | zero => omega
  | succ n ih =>
    have hc := cnt_nonneg ls n
    by_cases e : m = n
    · subst e
      rw [show m + 1 - m = 1 by omega]
      simp only [base]
      omega
    · have := ih (by omega)
      simp only [base]
      rw [show n + 1 - m = (n - m) + 1 by omega, Int.pow_succ, ← Int.mul_assoc]
      omega
theorem pf_ok {ls : List Int} (hV : Vl ls) {x : Int} (h0 : 0 ≤ x) (h1 : x < ls.length) : lkB ls x = decide (0 < ls.getD x.toNat 0) ∧ lkN ls x = ls.getD x.toNat 0 := by
  have hlt : x.toNat < ls.length := by omega
  have hb := hV.2 (ls.getD x.toNat 0) (by simp [List.getD_eq_getElem?_getD, hlt])
  by_cases h : 0 < ls.getD x.toNat 0
  · obtain ⟨L, r, hs⟩ := sym_of hV h0 h1 (by omega)
    have hm := hs.get
    have hin : (cls ls L)[r]? = some x := by rw [← hm]; simp [List.getD_eq_getElem?_getD, hs.lt]
    have := (cls_mem.1 (List.mem_of_getElem? hin)).2.2
    exact ⟨by rw [hs.b, decide_eq_true h], by rw [hs.n, this]⟩
  · have hz : ls.getD x.toNat 0 = 0 := by omega
    obtain ⟨_, e2, e3⟩ := lk_none (ls := ls) (x := x) (.inr (.inr (wd_none hz)))
    exact ⟨by rw [e3, decide_eq_false h], by rw [e2, hz]⟩
/-- What is known of two words. -/
structure Pf (ls : List Int) (i k : Int) : Prop where
  n1 : 1 ≤ lkN ls i
  n2 : lkN ls i ≤ 15
  m1 : 1 ≤ lkN ls k
  m2 : lkN ls k ≤ 15
  a0 : 0 ≤ lkW ls i
  a1 : lkW ls i < 32768
  b0 : 0 ≤ lkW ls k
  b1 : lkW ls k < 32768
  ge : lkN ls k ≤ lkN ls i → lkW ls k < (lkW ls i).fdiv (2 ^ (lkN ls i - lkN ls k).toNat)
  lt : lkN ls i < lkN ls k → lkW ls i < (lkW ls k).fdiv (2 ^ (lkN ls k - lkN ls i).toNat)
/-! ### The tree -/
def fullK (ls : List Int) : Nat → Int
  | 0 => 0
  | k + 1 => fullK ls k + (if 0 < ls.getD k 0 then 2 ^ (15 - lenOf ls k) else 0)
end Go.HuffP

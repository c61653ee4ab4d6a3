/-
  Canonical codes, plainly: the symbols by their words, each word.
-/
import Derived.Test.YtmclopghpnndnaaStPlain
namespace Go.HuffP
set_option linter.unusedVariables false
set_option linter.unusedSimpArgs false
/-- Symbols of a length, rising. -/
def cls (ls : List Int) (n : Nat) : List Int := ((List.range ls.length).filter (fun i => decide (ls.getD i 0 = (n : Int)))).map (fun i : Nat => (i : Int))
def ordN (ls : List Int) : Nat → List Int
  | 0 => []
  | n + 1 => ordN ls n ++ cls ls (n + 1)
def ord (ls : List Int) : List Int := ordN ls 15
def off (ls : List Int) : Nat → Nat
  | 0 => 0
  | n + 1 => (ordN ls n).length
/-- How many words of each length. -/
def cnt (ls : List Int) (n : Nat) : Int := if n = 0 then 0 else ((cls ls n).length : Int)
def cntL (ls : List Int) : List Int := (List.range 16).map (cnt ls)
def base (ls : List Int) : Nat → Int
  | 0 => 0
  | n + 1 => 2 * (base ls n + cnt ls n)
def lenOf (ls : List Int) (s : Nat) : Nat := (ls.getD s 0).toNat
def wordOf (ls : List Int) (s : Nat) : Int := base ls (lenOf ls s) + ((cls (ls.take s) (lenOf ls s)).length : Int)
def Vl (ls : List Int) : Prop := ls.length ≤ 320 ∧ ∀ x ∈ ls, 0 ≤ x ∧ x ≤ 15

theorem cntL_len (ls : List Int) : (cntL ls).length = 16 := by simp [cntL]
theorem cntL_get {ls : List Int} {n : Nat} (h : n < 16) : (cntL ls).getD n 0 = cnt ls n := by simp [cntL, List.getD_eq_getElem?_getD, h]
theorem cls_len_le (ls : List Int) (n : Nat) : (cls ls n).length ≤ ls.length := by
  unfold cls
  have := List.length_filter_le (fun i => decide (ls.getD i 0 = (n : Int))) (List.range ls.length)
  simpa using this
theorem cnt_nonneg (ls : List Int) (n : Nat) : 0 ≤ cnt ls n := by unfold cnt; split <;> omega
theorem cnt_le (ls : List Int) (n : Nat) : cnt ls n ≤ ls.length := by
  have := cls_len_le ls n
  unfold cnt; split <;> omega
theorem getD_take {ls : List Int} {i k : Nat} (h : i < k) : (ls.take k).getD i 0 = ls.getD i 0 := by
  simp [List.getD_eq_getElem?_getD, List.getElem?_take, h]
theorem cls_snoc {ls : List Int} {k n : Nat} (h : k < ls.length) : cls (ls.take (k + 1)) n = cls (ls.take k) n ++ (if ls[k] = (n : Int) then [(k : Int)] else []) := by
  unfold cls
  have e1 : (ls.take (k + 1)).length = k + 1 := by simp; omega
  have e2 : (ls.take k).length = k := by simp; omega
  rw [e1, e2, List.range_succ, List.filter_append, List.map_append]
  congr 1
  · congr 1
    apply List.filter_congr
    intro i hi
    have hi := List.mem_range.1 hi
    rw [getD_take (by omega), getD_take hi]
  · have : (ls.take (k + 1)).getD k 0 = ls[k] := by rw [getD_take (by omega)]; simp [List.getD_eq_getElem?_getD, h]
    by_cases he : ls[k] = (n : Int)
    · simp only [List.filter_cons, List.filter_nil, this, he, decide_true, decide_false, if_true, if_false, List.map_cons, List.map_nil]; try rfl
    · simp only [List.filter_cons, List.filter_nil, this, he, decide_true, decide_false, if_true, if_false, List.map_cons, List.map_nil]; try rfl
theorem cls_zero (n : Nat) : cls [] n = [] := by simp [cls]
theorem cnt_snoc {ls : List Int} {k n : Nat} (h : k < ls.length) : cnt (ls.take (k + 1)) n = cnt (ls.take k) n + (if n ≠ 0 ∧ ls[k] = (n : Int) then 1 else 0) := by
  unfold cnt
  by_cases h0 : n = 0
  · simp [h0]
  · rw [if_neg h0, if_neg h0, cls_snoc h]
    by_cases he : ls[k] = (n : Int)
    · simp [he, h0]
    · simp [he]
theorem cntL_snoc {ls : List Int} {k : Nat} (h : k < ls.length) (h1 : 0 < ls[k]) (h2 : ls[k] ≤ 15) : cntL (ls.take (k + 1)) = (cntL (ls.take k)).set ls[k].toNat ((cntL (ls.take k)).getD ls[k].toNat 0 + 1) := by
  apply List.ext_getElem?
  intro i
  by_cases hi : i < 16
  · rw [List.getElem?_set]
    by_cases he : ls[k].toNat = i
    · rw [if_pos he, if_pos (by rw [cntL_len]; omega), he, cntL_get hi]
      simp only [cntL, List.getElem?_map, List.getElem?_range hi, Option.map_some]
      rw [cnt_snoc h, if_pos ⟨by omega, by omega⟩]
    · rw [if_neg he]
      simp only [cntL, List.getElem?_map, List.getElem?_range hi, Option.map_some]
      rw [cnt_snoc h, if_neg (fun hh => he (by omega))]
      simp
  · rw [List.getElem?_eq_none (by rw [cntL_len]; omega), List.getElem?_eq_none (by rw [List.length_set, cntL_len]; omega)]
theorem cntL_same {ls : List Int} {k : Nat} (h : k < ls.length) (h1 : ls[k] = 0) : cntL (ls.take (k + 1)) = cntL (ls.take k) := by
  unfold cntL
  apply List.map_congr_left
  intro i _
  rw [cnt_snoc h, if_neg (fun hh => hh.1 (by omega))]
  simp
theorem cntL_nil : cntL [] = List.replicate 16 0 := by
  have : cnt [] = fun _ => 0 := by funext n; simp [cnt, cls_zero]
  unfold cntL
  rw [this]
  rfl
/-- Symbols that have a word, rising. -/
def posn (ls : List Int) : List Int := ((List.range ls.length).filter (fun i => decide (0 < ls.getD i 0))).map (fun i : Nat => (i : Int))
theorem posn_snoc {ls : List Int} {k : Nat} (h : k < ls.length) : posn (ls.take (k + 1)) = posn (ls.take k) ++ (if 0 < ls[k] then [(k : Int)] else []) := by
  unfold posn
  have e1 : (ls.take (k + 1)).length = k + 1 := by simp; omega
  have e2 : (ls.take k).length = k := by simp; omega
  rw [e1, e2, List.range_succ, List.filter_append, List.map_append]
  congr 1
  · congr 1
    apply List.filter_congr
    intro i hi
    have hi := List.mem_range.1 hi
    rw [getD_take (by omega), getD_take hi]
  · have : (ls.take (k + 1)).getD k 0 = ls[k] := by rw [getD_take (by omega)]; simp [List.getD_eq_getElem?_getD, h]
    by_cases he : 0 < ls[k]
    · simp only [List.filter_cons, List.filter_nil, this, he, decide_true, decide_false, if_true, if_false, List.map_cons, List.map_nil]; try rfl
    · simp only [List.filter_cons, List.filter_nil, this, he, decide_true, decide_false, if_true, if_false, List.map_cons, List.map_nil]; try rfl
theorem posn_le (ls : List Int) : (posn ls).length ≤ ls.length := by
  unfold posn
  have := List.length_filter_le (fun i => decide (0 < ls.getD i 0)) (List.range ls.length)
  simpa using this
/-- What is left of the tree behind n levels. -/
def left (C : List Int) : Nat → Int
  | 0 => 1
  | n + 1 => 2 * left C n - C.getD (n + 1) 0
def wholeB (C : List Int) (all : Int) : Bool := (List.range 15).all (fun n => decide (0 ≤ left C (n + 1))) && (decide (left C 15 = 0) || decide (all = 0) || (decide (all = 1) && decide (C.getD 1 0 = 1)))
theorem left_le {C : List Int} (hC : ∀ i, 0 ≤ C.getD i 0) : ∀ n, left C n ≤ 2 ^ n
  | 0 => by simp [left]
  | n + 1 => by
    have h := left_le hC n
    have := hC (n + 1)
    simp only [left]
    rw [Int.pow_succ]
    omega
theorem left_bound {C : List Int} (hC : ∀ i, 0 ≤ C.getD i 0) {n : Nat} (hn : n ≤ 15) : left C n ≤ 32768 := by
  refine Int.le_trans (left_le hC n) ?_
  have : (2 : Nat) ^ n ≤ 2 ^ 15 := Nat.pow_le_pow_right (by decide) hn
  have e : ((2 : Int) ^ n) = ((2 ^ n : Nat) : Int) := by simp
  rw [e]
  omega
theorem whole_no {C : List Int} {all : Int} {n : Nat} (h1 : 1 ≤ n) (h2 : n ≤ 15) (h : left C n < 0) : wholeB C all = false := by
  unfold wholeB
  have : (List.range 15).all (fun n => decide (0 ≤ left C (n + 1))) = false := by
    rw [List.all_eq_false]
    exact ⟨n - 1, List.mem_range.2 (by omega), by rw [show n - 1 + 1 = n by omega]; simpa using h⟩
  rw [this]; rfl
theorem whole_yes {C : List Int} {all : Int} (h : ∀ n, 1 ≤ n → n ≤ 15 → 0 ≤ left C n) : wholeB C all = (decide (left C 15 = 0) || decide (all = 0) || (decide (all = 1) && decide (C.getD 1 0 = 1))) := by
  unfold wholeB
  have : (List.range 15).all (fun n => decide (0 ≤ left C (n + 1))) = true := by
    rw [List.all_eq_true]
    intro x hx
    have := List.mem_range.1 hx
    simpa using h (x + 1) (by omega) (by omega)
  rw [this]; rfl
theorem left_nn {C : List Int} {k : Nat} (hno : ∀ m, 1 ≤ m → m ≤ k → 0 ≤ left C m) : 0 ≤ left C k := by
  rcases Nat.eq_zero_or_pos k with e | e
  · subst e; simp [left]
  · exact hno k e (Nat.le_refl _)
theorem left_next {C : List Int} {k : Nat} : 2 * left C k - C.getD ((k : Int) + 1).toNat 0 = left C (k + 1) := by
  rw [show ((k : Int) + 1).toNat = k + 1 by omega]; rfl
theorem left_more {C : List Int} {k : Nat} (hno : ∀ m, 1 ≤ m → m ≤ k → 0 ≤ left C m) (h : ¬ 2 * left C k - C.getD ((k : Int) + 1).toNat 0 < 0) : ∀ m, 1 ≤ m → m ≤ k + 1 → 0 ≤ left C m := by
  intro m h1 h2
  rcases Nat.lt_or_ge m (k + 1) with h3 | h3
  · exact hno m h1 (by omega)
  · obtain rfl : m = k + 1 := by omega
    rw [left_next] at h
    omega
theorem whole_end {C : List Int} {all : Int} {k : Nat} (hk : k ≤ 15) (h8 : ¬ ((k : Int) + 1 ≤ 15)) (hno : ∀ m, 1 ≤ m → m ≤ k → 0 ≤ left C m) : wholeB C all = (decide (left C k = 0) || decide (all = 0) || (decide (all = 1) && decide (C.getD (Int.toNat 1) 0 = 1))) := by
  obtain rfl : k = 15 := by omega
  exact whole_yes hno
/-- Are lengths as they may be? -/
def okB (ls : List Int) : Bool := ls.all (fun x => decide (0 ≤ x ∧ x ≤ 15))
def newE (ls : List Int) : Int := if 320 < ls.length then 1 else if okB ls = true then (if wholeB (cntL ls) ((posn ls).length : Int) = true then 0 else 4) else 1
def mostL (ls : List Int) : Int := ls.foldl (fun a x => if a < x then x else a) 0

/-! ### The order -/
theorem cls_mem {ls : List Int} {n : Nat} {x : Int} : x ∈ cls ls n ↔ 0 ≤ x ∧ x.toNat < ls.length ∧ ls.getD x.toNat 0 = (n : Int) := by
  unfold cls
  simp only [List.mem_map, List.mem_filter, List.mem_range, decide_eq_true_eq]
  constructor
  · rintro ⟨i, ⟨h1, h2⟩, rfl⟩
    exact ⟨by omega, by simpa using h1, by simpa using h2⟩
  · rintro ⟨h1, h2, h3⟩
    exact ⟨x.toNat, ⟨h2, h3⟩, by omega⟩
theorem ordN_mem {ls : List Int} {x : Int} : ∀ {n : Nat}, x ∈ ordN ls n ↔ ∃ m, 1 ≤ m ∧ m ≤ n ∧ x ∈ cls ls m
  | 0 => by simp [ordN]; omega
  | n + 1 => by
    simp only [ordN, List.mem_append, ordN_mem (n := n)]
    constructor
    · rintro (⟨m, h1, h2, h3⟩ | h)
      · exact ⟨m, h1, by omega, h3⟩
      · exact ⟨n + 1, by omega, Nat.le_refl _, h⟩
    · rintro ⟨m, h1, h2, h3⟩
      by_cases e : m = n + 1
      · subst e; exact .inr h3
      · exact .inl ⟨m, h1, by omega, h3⟩
theorem ord_mem {ls : List Int} (hv : Vl ls) {x : Int} : x ∈ ord ls ↔ 0 ≤ x ∧ x.toNat < ls.length ∧ 0 < ls.getD x.toNat 0 := by
  unfold ord
  rw [ordN_mem]
  constructor
  · rintro ⟨m, h1, h2, h3⟩
    obtain ⟨a, b, c⟩ := cls_mem.1 h3
    exact ⟨a, b, by omega⟩
  · rintro ⟨h1, h2, h3⟩
    have h4 := hv.2 (ls.getD x.toNat 0) (by simp [List.getD_eq_getElem?_getD, h2])
    refine ⟨(ls.getD x.toNat 0).toNat, by omega, by omega, cls_mem.2 ⟨h1, h2, by omega⟩⟩
theorem ordN_len (ls : List Int) (n : Nat) : (ordN ls n).length = off ls (n + 1) := rfl
theorem off_succ (ls : List Int) {n : Nat} (h : 1 ≤ n) : off ls (n + 1) = off ls n + (cls ls n).length := by
  obtain ⟨m, rfl⟩ : ∃ m, n = m + 1 := ⟨n - 1, by omega⟩
  simp [off, ordN]
theorem off_cnt (ls : List Int) (n : Nat) : (off ls (n + 1) : Int) = off ls n + cnt ls n := by
  rcases Nat.eq_zero_or_pos n with h | h
  · subst h; simp [off, ordN, cnt]
  · rw [off_succ ls h]
    unfold cnt
    rw [if_neg (by omega)]
    omega
theorem ordN_pre (ls : List Int) {m n : Nat} (h : m ≤ n) : ∃ t, ordN ls n = ordN ls m ++ t := by
  induction n with
  | zero =>
    obtain rfl : m = 0 := by omega
    exact ⟨[], by simp⟩
  | succ n ih =>
    by_cases e : m = n + 1
    · subst e; exact ⟨[], by simp⟩
    · obtain ⟨t, ht⟩ := ih (by omega)
      exact ⟨t ++ cls ls (n + 1), by simp [ordN, ht]⟩
theorem off_mono (ls : List Int) {m n : Nat} (h : m ≤ n) : off ls m ≤ off ls n := by
  induction n with
  | zero =>
    obtain rfl : m = 0 := by omega
    exact Nat.le_refl _
  | succ n ih =>
    by_cases e : m = n + 1
    · subst e; exact Nat.le_refl _
    · have := ih (by omega)
      have h2 := off_cnt ls n
      have h3 := cnt_nonneg ls n
      omega
theorem ord_len (ls : List Int) : (ord ls).length = off ls 16 := rfl
/-- Where a symbol stands. -/
theorem ord_get {ls : List Int} {n r : Nat} (h1 : 1 ≤ n) (h2 : n ≤ 15) (h : r < (cls ls n).length) : (ord ls).getD (off ls n + r) 0 = (cls ls n).getD r 0 := by
  obtain ⟨t, ht⟩ := ordN_pre ls (show n ≤ 15 from h2)
  obtain ⟨m, rfl⟩ : ∃ m, n = m + 1 := ⟨n - 1, by omega⟩
  have e : ord ls = ordN ls m ++ cls ls (m + 1) ++ t := by unfold ord; rw [ht]; rfl
  rw [e, List.append_assoc]
  simp only [List.getD_eq_getElem?_getD, off]
  rw [List.getElem?_append_right (by omega), List.getElem?_append_left (by omega)]
  congr 2
  omega
theorem ord_cls {ls : List Int} {p : Nat} (h : p < (ord ls).length) : ∃ n r, 1 ≤ n ∧ n ≤ 15 ∧ r < (cls ls n).length ∧ p = off ls n + r := by
  have key : ∀ n, p < off ls (n + 1) → ∃ m r, 1 ≤ m ∧ m ≤ n ∧ r < (cls ls m).length ∧ p = off ls m + r := by
    intro n
    induction n with
    | zero => intro h; simp [off, ordN] at h
    | succ n ih =>
      intro h
      by_cases h2 : p < off ls (n + 1)
      · obtain ⟨m, r, a, b, c, d⟩ := ih h2
        exact ⟨m, r, a, by omega, c, d⟩
      · have := off_succ ls (n := n + 1) (by omega)
        exact ⟨n + 1, p - off ls (n + 1), by omega, Nat.le_refl _, by omega, by omega⟩
  exact key 15 h
theorem cls_take {ls : List Int} {s n : Nat} (h : s < ls.length) (hn : ls.getD s 0 = (n : Int)) : ∃ t, cls ls n = cls (ls.take s) n ++ ((s : Int) :: t) := by
  have e : ls = ls.take (s + 1) ++ ls.drop (s + 1) := (List.take_append_drop _ _).symm
  have key : ∀ k, s + 1 + k ≤ ls.length → ∃ t, cls (ls.take (s + 1 + k)) n = cls (ls.take s) n ++ ((s : Int) :: t) := by
    intro k
    induction k with
    | zero =>
      intro _
      refine ⟨[], ?_⟩
      rw [Nat.add_zero, cls_snoc h, if_pos (by rw [← hn]; simp [List.getD_eq_getElem?_getD, h])]
    | succ k ih =>
      intro hk
      obtain ⟨t, ht⟩ := ih (by omega)
      refine ⟨t ++ (if ls[s + 1 + k] = (n : Int) then [((s + 1 + k : Nat) : Int)] else []), ?_⟩
      rw [show s + 1 + (k + 1) = (s + 1 + k) + 1 by omega, cls_snoc (show s + 1 + k < ls.length by omega), ht]
      simp
  obtain ⟨t, ht⟩ := key (ls.length - (s + 1)) (by omega)
  rw [show s + 1 + (ls.length - (s + 1)) = ls.length by omega, List.take_length] at ht
  exact ⟨t, ht⟩
theorem cls_nodup (ls : List Int) (n : Nat) : (cls ls n).Nodup := by
  unfold cls
  have h : ((List.range ls.length).filter (fun i => decide (ls.getD i 0 = (n : Int)))).Nodup := List.Pairwise.filter _ List.nodup_range
  rw [List.Nodup, List.pairwise_map]
  exact List.Pairwise.imp (fun {a b} hab he => hab (Int.ofNat.inj he)) h
/-- The word of the symbol that stands at p. -/
theorem word_at {ls : List Int} {n r : Nat} (h1 : 1 ≤ n) (h2 : n ≤ 15) (h : r < (cls ls n).length) :
    ∃ s : Nat, (ord ls).getD (off ls n + r) 0 = (s : Int) ∧ s < ls.length ∧ ls.getD s 0 = (n : Int) ∧ lenOf ls s = n ∧ wordOf ls s = base ls n + r := by
  have hr0 : (cls ls n)[r]? = some ((cls ls n).getD r 0) := by simp [List.getD_eq_getElem?_getD, h]
  have hm : (cls ls n).getD r 0 ∈ cls ls n := List.mem_of_getElem? hr0
  obtain ⟨a, b, c⟩ := cls_mem.1 hm
  obtain ⟨s, hs⟩ : ∃ s : Nat, (cls ls n).getD r 0 = (s : Int) := ⟨((cls ls n).getD r 0).toNat, by omega⟩
  rw [hs] at hr0 b c
  simp only [Int.toNat_natCast] at b c
  have hl : lenOf ls s = n := by unfold lenOf; rw [c]; omega
  refine ⟨s, by rw [ord_get h1 h2 h, hs], b, c, hl, ?_⟩
  unfold wordOf
  rw [hl]
  congr 1
  obtain ⟨t, ht⟩ := cls_take b c
  have hidx : (cls ls n)[(cls (ls.take s) n).length]? = some (s : Int) := by
    rw [ht, List.getElem?_append_right (Nat.le_refl _), Nat.sub_self]
    rfl
  have := (List.getElem?_inj (List.getElem?_eq_some_iff.1 hr0).1 (cls_nodup ls n)).1 (hr0.trans hidx.symm)
  omega
theorem base_far {ls : List Int} {m n : Nat} (h : m ≤ n) (hz : ∀ k, m < k → k < n → cnt ls k = 0) (hmn : m < n) : base ls n = (base ls m + cnt ls m) * 2 ^ (n - m) := by
  induction n with
  | zero => omega
  | succ n ih =>
    by_cases e : m = n
    · subst e
      rw [show m + 1 - m = 1 by omega]
      simp only [base]
      omega
    · have := ih (by omega) (fun k k1 k2 => hz k k1 (by omega)) (by omega)
      simp only [base]
      rw [this, hz n (by omega) (by omega), show n + 1 - m = (n - m) + 1 by omega, Int.pow_succ]
      rw [Int.add_zero, Int.mul_comm 2, Int.mul_assoc]
/-- The next word: behind the one ahead, moved up by what it is longer. -/
theorem next_word {ls : List Int} {p : Nat} (hp : p + 1 < (ord ls).length) : ∃ s t : Nat, (ord ls).getD p 0 = (s : Int) ∧ (ord ls).getD (p + 1) 0 = (t : Int) ∧ s < ls.length ∧ t < ls.length ∧ 1 ≤ lenOf ls s ∧ lenOf ls s ≤ lenOf ls t ∧ lenOf ls t ≤ 15 ∧ ls.getD s 0 = (lenOf ls s : Int) ∧ ls.getD t 0 = (lenOf ls t : Int) ∧ wordOf ls t = (wordOf ls s + 1) * 2 ^ (lenOf ls t - lenOf ls s) := by
  obtain ⟨m, r, m1, m2, hr, e1⟩ := ord_cls (show p < (ord ls).length by omega)
  obtain ⟨n, q, n1, n2, hq, e2⟩ := ord_cls hp
  obtain ⟨s, s1, s2, s3, s4, s5⟩ := word_at m1 m2 hr
  obtain ⟨t, t1, t2, t3, t4, t5⟩ := word_at n1 n2 hq
  have hmn : m ≤ n := by
    rcases Nat.lt_or_ge n m with h | h
    · exfalso
      have := off_mono ls (show n + 1 ≤ m from h)
      have := off_succ ls n1
      omega
    · exact h
  refine ⟨s, t, by rw [e1]; exact s1, by rw [e2]; exact t1, s2, t2, by omega, by omega, by omega, by rw [s4]; exact s3, by rw [t4]; exact t3, ?_⟩
  rw [s4, t4, s5, t5]
  by_cases e : m = n
  · subst e
    rw [Nat.sub_self]
    simp
    omega
  · have h3 := off_mono ls (show m + 1 ≤ n by omega)
    have h4 := off_succ ls m1
    have hq0 : q = 0 := by omega
    have hrl : r + 1 = (cls ls m).length := by omega
    subst hq0
    have hz : ∀ k, m < k → k < n → cnt ls k = 0 := by
      intro k k1 k2
      have h5 := off_mono ls (show m + 1 ≤ k by omega)
      have h6 := off_mono ls (show k + 1 ≤ n by omega)
      have h7 := off_cnt ls k
      have h8 := cnt_nonneg ls k
      omega
    have hc : cnt ls m = (r : Int) + 1 := by unfold cnt; rw [if_neg (by omega)]; omega
    rw [base_far hmn hz (by omega), hc]
    simp [Int.add_assoc]
theorem first_word {ls : List Int} (hp : 0 < (ord ls).length) : ∃ t : Nat, (ord ls).getD 0 0 = (t : Int) ∧ t < ls.length ∧ 1 ≤ lenOf ls t ∧ lenOf ls t ≤ 15 ∧ ls.getD t 0 = (lenOf ls t : Int) ∧ wordOf ls t = 0 := by
  obtain ⟨n, q, n1, n2, hq, e2⟩ := ord_cls hp
  obtain ⟨t, t1, t2, t3, t4, t5⟩ := word_at n1 n2 hq
  refine ⟨t, by rw [e2]; exact t1, t2, by omega, by omega, by rw [t4]; exact t3, ?_⟩
  have hz : ∀ k, 0 < k → k < n → cnt ls k = 0 := by
    intro k k1 k2
    have h6 := off_mono ls (show k + 1 ≤ n by omega)
    have h7 := off_cnt ls k
    have h8 := cnt_nonneg ls k
    omega
  rw [t5, base_far (Nat.zero_le n) hz (by omega)]
  simp [base, cnt]
  omega
end Go.HuffP

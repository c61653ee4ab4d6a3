/-
  No word is the beginning of another one; the words fill the tree.
-/
import Derived.Test.YtmclopghpnndnaaM35
namespace Go.HuffP
set_option linter.unusedVariables false
set_option linter.unusedSimpArgs false
theorem cls_inc (ls : List Int) (n : Nat) : (cls ls n).Pairwise (· < ·) := by
  unfold cls
  rw [List.pairwise_map]
  have h : ((List.range ls.length).filter (fun i => decide (ls.getD i 0 = (n : Int)))).Pairwise (· < ·) := List.Pairwise.filter _ List.pairwise_lt_range
  exact h.imp (fun {a b} hab => by omega)
theorem cls_lt {ls : List Int} {n p q : Nat} (hp : p < (cls ls n).length) (hq : q < (cls ls n).length) (h : (cls ls n).getD p 0 < (cls ls n).getD q 0) : p < q := by
  have hi := List.pairwise_iff_getElem.1 (cls_inc ls n)
  have ep : (cls ls n).getD p 0 = (cls ls n)[p] := by simp [List.getD_eq_getElem?_getD, hp]
  have eq : (cls ls n).getD q 0 = (cls ls n)[q] := by simp [List.getD_eq_getElem?_getD, hq]
  rw [ep, eq] at h
  rcases Nat.lt_trichotomy p q with h1 | h1 | h1
  · exact h1
  · subst h1; omega
  · have := hi q p hq hp h1; omega
theorem base_ge (ls : List Int) {m n : Nat} (h : m < n) : (base ls m + cnt ls m) * 2 ^ (n - m) ≤ base ls n := by
  induction n with
  | zero => omega
  | succ n ih =>
    have hc := cnt_nonneg ls n
    by_cases e : m = n
    · subst e
      rw [show m + 1 - m = 1 by omega]
      simp only [base]
      omega
    · have := ih (by omega)
      simp only [base]
      rw [show n + 1 - m = (n - m) + 1 by omega, Int.pow_succ, ← Int.mul_assoc]
      omega
theorem pf_ok {ls : List Int} (hV : Vl ls) {x : Int} (h0 : 0 ≤ x) (h1 : x < ls.length) : lkB ls x = decide (0 < ls.getD x.toNat 0) ∧ lkN ls x = ls.getD x.toNat 0 := by
  have hlt : x.toNat < ls.length := by omega
  have hb := hV.2 (ls.getD x.toNat 0) (by simp [List.getD_eq_getElem?_getD, hlt])
  by_cases h : 0 < ls.getD x.toNat 0
  · obtain ⟨L, r, hs⟩ := sym_of hV h0 h1 (by omega)
    have hm := hs.get
    have hin : (cls ls L)[r]? = some x := by rw [← hm]; simp [List.getD_eq_getElem?_getD, hs.lt]
    have := (cls_mem.1 (List.mem_of_getElem? hin)).2.2
    exact ⟨by rw [hs.b, decide_eq_true h], by rw [hs.n, this]⟩
  · have hz : ls.getD x.toNat 0 = 0 := by omega
    obtain ⟨_, e2, e3⟩ := lk_none (ls := ls) (x := x) (.inr (.inr (wd_none hz)))
    exact ⟨by rw [e3, decide_eq_false h], by rw [e2, hz]⟩
/-- What is known of two words. -/
structure Pf (ls : List Int) (i k : Int) : Prop where
  n1 : 1 ≤ lkN ls i
  n2 : lkN ls i ≤ 15
  m1 : 1 ≤ lkN ls k
  m2 : lkN ls k ≤ 15
  a0 : 0 ≤ lkW ls i
  a1 : lkW ls i < 32768
  b0 : 0 ≤ lkW ls k
  b1 : lkW ls k < 32768
  ge : lkN ls k ≤ lkN ls i → lkW ls k < (lkW ls i).fdiv (2 ^ (lkN ls i - lkN ls k).toNat)
  lt : lkN ls i < lkN ls k → lkW ls i < (lkW ls k).fdiv (2 ^ (lkN ls k - lkN ls i).toNat)
theorem far {ls : List Int} {m n r s : Nat} (h : m < n) (hm : 1 ≤ m) (hr : r < (cls ls m).length) : base ls m + (r : Int) < (base ls n + (s : Int)).fdiv (2 ^ (n - m)) := by
  have h1 := base_ge ls h
  have hc : cnt ls m = ((cls ls m).length : Int) := by unfold cnt; rw [if_neg (by omega)]
  have hp : (0 : Int) < 2 ^ (n - m) := Int.pow_pos (by decide)
  rw [Int.fdiv_eq_ediv_of_nonneg _ (Int.le_of_lt hp)]
  have : base ls m + cnt ls m ≤ (base ls n + (s : Int)) / 2 ^ (n - m) := by
    rw [Int.le_ediv_iff_mul_le hp]
    omega
  omega
theorem pf_pair {ls : List Int} (hE : newE ls = 0) {i k : Int} (hk : 0 ≤ k) (hki : k < i) (hi : i < ls.length) (hbi : lkB ls i = true) (hbk : lkB ls k = true) : Pf ls i k := by
  obtain ⟨hV, hW⟩ := newE_vl hE
  rw [(pf_ok hV (by omega) hi).1, decide_eq_true_eq] at hbi
  rw [(pf_ok hV hk (by omega)).1, decide_eq_true_eq] at hbk
  obtain ⟨n, r, hs⟩ := sym_of hV (x := i) (by omega) hi (by omega)
  obtain ⟨m, q, ht⟩ := sym_of hV (x := k) hk (by omega) (by omega)
  have w1 := word_lt hW hs.one hs.top hs.lt
  have w2 := word_lt hW ht.one ht.top ht.lt
  have p1 := pow_15 hs.top
  have p2 := pow_15 ht.top
  have b1 := base_nn ls n
  have b2 := base_nn ls m
  have i1 := hs.one
  have i2 := hs.top
  have i3 := ht.one
  have i4 := ht.top
  refine ⟨by rw [hs.n]; omega, by rw [hs.n]; omega, by rw [ht.n]; omega, by rw [ht.n]; omega, by rw [hs.w]; omega, by rw [hs.w]; omega, by rw [ht.w]; omega, by rw [ht.w]; omega, ?_, ?_⟩
  · rw [hs.n, ht.n, hs.w, ht.w]
    intro h
    rw [show ((n : Int) - (m : Int)).toNat = n - m by omega]
    by_cases e : m = n
    · subst e
      have := cls_lt ht.lt hs.lt (by rw [ht.get, hs.get]; exact hki)
      rw [Nat.sub_self]
      simp
      omega
    · exact far (by omega) i3 ht.lt
  · rw [hs.n, ht.n, hs.w, ht.w]
    intro h
    rw [show ((m : Int) - (n : Int)).toNat = m - n by omega]
    exact far (by omega) i1 hs.lt
theorem Pf.no1 {ls : List Int} {i k : Int} (h : Pf ls i k) (c : lkN ls k ≤ lkN ls i) : ¬ (lkW ls i).fdiv (2 ^ (lkN ls i - lkN ls k).toNat) = lkW ls k := by
  have := h.ge c; omega
theorem Pf.no2 {ls : List Int} {i k : Int} (h : Pf ls i k) (c : lkN ls i ≤ lkN ls k) : ¬ (lkW ls k).fdiv (2 ^ (lkN ls k - lkN ls i).toNat) = lkW ls i := by
  by_cases e : lkN ls i = lkN ls k
  · have := h.ge (by omega)
    rw [e] at this ⊢
    rw [show (lkN ls k - lkN ls k).toNat = 0 by omega] at this ⊢
    simp at this ⊢
    omega
  · have := h.lt (by omega); omega
theorem Pf.no3 {ls : List Int} {i k : Int} (h : Pf ls i k) (c : lkN ls i = lkN ls k) : ¬ lkW ls i ≤ lkW ls k := by
  have := h.ge (by omega)
  rw [c, show (lkN ls k - lkN ls k).toNat = 0 by omega] at this
  simp at this
  omega
theorem Pf.no4 {ls : List Int} {i k : Int} (h : Pf ls i k) (c : lkN ls k < lkN ls i) : ¬ (lkW ls i).fdiv (2 ^ (lkN ls i - lkN ls k).toNat) < lkW ls k := by
  have := h.ge (by omega); omega
theorem Pf.no5 {ls : List Int} {i k : Int} (h : Pf ls i k) (c : lkN ls i < lkN ls k) : ¬ (lkW ls k).fdiv (2 ^ (lkN ls k - lkN ls i).toNat) < lkW ls i := by
  have := h.lt c; omega
theorem min15 {d : Int} (h0 : 0 ≤ d) (h1 : d ≤ 15) : min d.toNat IntKind.i64.bits = d.toNat := by
  have : IntKind.i64.bits = 64 := rfl
  omega
theorem shr_d {a d : Int} (h0 : 0 ≤ d) (h1 : d ≤ 15) : a.fdiv (2 ^ (min d.toNat IntKind.i64.bits)) = a.fdiv (2 ^ d.toNat) := by rw [min15 h0 h1]
/-! ### The tree -/
def fullK (ls : List Int) : Nat → Int
  | 0 => 0
  | k + 1 => fullK ls k + (if 0 < ls.getD k 0 then 2 ^ (15 - lenOf ls k) else 0)
theorem full_bound (ls : List Int) : ∀ k : Nat, 0 ≤ fullK ls k ∧ fullK ls k ≤ 32768 * (k : Int)
  | 0 => by simp [fullK]
  | k + 1 => by
    have := full_bound ls k
    have h := pow_15 (show 15 - lenOf ls k ≤ 15 by omega)
    have hp : (0 : Int) < 2 ^ (15 - lenOf ls k) := Int.pow_pos (by decide)
    simp only [fullK]
    split <;> omega
theorem full_yes {ls : List Int} {k : Nat} (h : 0 < ls.getD k 0) : fullK ls k + 2 ^ (15 - lenOf ls k) = fullK ls (k + 1) := by simp only [fullK]; rw [if_pos h]
theorem full_no {ls : List Int} {k : Nat} (h : ¬ 0 < ls.getD k 0) : fullK ls k = fullK ls (k + 1) := by simp only [fullK]; rw [if_neg h]; omega
theorem left_one {C D : List Int} {L : Nat} (h1 : 1 ≤ L) : ∀ n : Nat, (∀ j, 1 ≤ j → j ≤ n → D.getD j 0 = C.getD j 0 + (if j = L then 1 else 0)) → left D n = left C n - (if L ≤ n then 2 ^ (n - L) else 0)
  | 0, _ => by simp [left]; omega
  | n + 1, h => by
    have ih := left_one (C := C) (D := D) h1 n (fun j j1 j2 => h j j1 (by omega))
    have hh := h (n + 1) (by omega) (Nat.le_refl _)
    simp only [left]
    rw [ih, hh]
    by_cases e : n + 1 = L
    · subst e
      rw [if_neg (by omega), if_pos rfl, if_pos (Nat.le_refl _), Nat.sub_self, Int.pow_zero]
      omega
    · rw [if_neg e]
      by_cases e2 : L ≤ n
      · rw [if_pos e2, if_pos (by omega), show n + 1 - L = (n - L) + 1 by omega, Int.pow_succ]
        omega
      · rw [if_neg e2, if_neg (by omega)]
        omega
theorem full_left {ls : List Int} (hv : ∀ x ∈ ls, 0 ≤ x ∧ x ≤ 15) : ∀ k : Nat, k ≤ ls.length → left (cntL (ls.take k)) 15 = 32768 - fullK ls k
  | 0, _ => by rw [List.take_zero, cntL_nil]; rfl
  | k + 1, h => by
    have ih := full_left hv k (by omega)
    have hk : k < ls.length := by omega
    have hg : ls.getD k 0 = ls[k] := by simp [List.getD_eq_getElem?_getD, hk]
    have hb := hv ls[k] (List.getElem_mem hk)
    by_cases e : 0 < ls[k]
    · rw [← full_yes (by omega)]
      have hl : lenOf ls k = ls[k].toNat := by unfold lenOf; rw [hg]
      rw [hl]
      have := left_one (C := cntL (ls.take k)) (D := cntL (ls.take (k + 1))) (L := ls[k].toNat) (by omega) 15 (by
        intro j j1 j2
        rw [cntL_get (by omega), cntL_get (by omega), cnt_snoc hk]
        by_cases ej : j = ls[k].toNat
        · rw [if_pos ej, if_pos (by omega)]
        · rw [if_neg ej, if_neg (by omega)])
      rw [this, if_pos (by omega), ih]
      omega
    · rw [← full_no (by omega), cntL_same hk (by omega), ih]
theorem full_end {ls : List Int} (hE : newE ls = 0) : fullK ls ls.length = 32768 ∨ (posn ls).length = 0 ∨ ((posn ls).length = 1 ∧ fullK ls ls.length = 16384) := by
  obtain ⟨hV, hW⟩ := newE_vl hE
  have hf := full_left hV.2 ls.length (Nat.le_refl _)
  rw [List.take_length] at hf
  have hlb := left_base (ls := ls) 15 (by omega)
  rw [whole_yes (fun n _ h2 => whole_left hW h2)] at hW
  simp only [Bool.or_eq_true, Bool.and_eq_true, decide_eq_true_eq] at hW
  rcases hW with (h | h) | ⟨h1, h2⟩
  · left; omega
  · right; left; omega
  · right; right
    refine ⟨by omega, ?_⟩
    rw [cntL_get (by omega)] at h2
    have hl := posn_len hV
    rw [ord_len] at hl
    have hz : ∀ k, 1 < k → k < 16 → cnt ls k = 0 := by
      intro k k1 k2
      have h5 := off_mono ls (show 2 ≤ k by omega)
      have h6 := off_mono ls (show k + 1 ≤ 16 by omega)
      have h7 := off_cnt ls k
      have h8 := cnt_nonneg ls k
      have h9 : (off ls 2 : Int) = off ls 1 + cnt ls 1 := off_cnt ls 1
      have h10 : off ls 1 = 0 := rfl
      omega
    have hbf := base_far (ls := ls) (m := 1) (n := 15) (by omega) (fun k a b => hz k a (by omega)) (by omega)
    rw [h2, show base ls 1 = 0 from by simp [base, cnt]] at hbf
    have := hz 15 (by omega) (by omega)
    rw [hbf, this] at hlb
    simp at hlb
    omega
theorem shl_full {ls : List Int} {k : Nat} {x : Int} (hx : x = ls.getD k 0) (h0 : 0 < x) (h1 : x ≤ 15) : IntKind.i64.wrap (1 * 2 ^ (min (15 - x).toNat IntKind.i64.bits)) = 2 ^ (15 - lenOf ls k) := by
  rw [min15 (by omega) (by omega), Int.one_mul]
  have e : (15 - x).toNat = 15 - lenOf ls k := by unfold lenOf; omega
  rw [e]
  have h := pow_15 (show 15 - lenOf ls k ≤ 15 by omega)
  have hp : (0 : Int) < 2 ^ (15 - lenOf ls k) := Int.pow_pos (by decide)
  exact Sl.wrapI (by omega) (by omega)
theorem many_yes {ls : List Int} {k : Nat} (h : k < ls.length) (h0 : 0 < ls.getD k 0) : ((posn (ls.take k)).length : Int) + 1 = ((posn (ls.take (k + 1))).length : Int) :=
  many_pos h (x := ls.getD k 0) (by simp [h]) h0
theorem many_no {ls : List Int} {k : Nat} (h : k < ls.length) (h0 : ¬ 0 < ls.getD k 0) : ((posn (ls.take k)).length : Int) = ((posn (ls.take (k + 1))).length : Int) :=
  many_zero h (x := ls.getD k 0) (by simp [h]) (by omega)
end Go.HuffP

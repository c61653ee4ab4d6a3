/-
  Canonical codes, plainly: the sort leaves the order; the words one after the other.
-/
import Derived.Test.YtmclopghpnndnaaHuffPlain
namespace Go.HuffP
set_option linter.unusedVariables false
set_option linter.unusedSimpArgs false
open Go.StS
abbrev key (ls : List Int) (x : Int) : Int := ls.getD x.toNat 0
theorem filt_map (l : List Nat) (q : Nat → Bool) (p : Int → Bool) : ((l.filter q).map (fun i : Nat => (i : Int))).filter p = (l.filter (fun i => q i && p (i : Int))).map (fun i : Nat => (i : Int)) := by
  rw [List.filter_map, List.filter_filter]
  congr 2
  funext i
  simp [Bool.and_comm]
theorem filt_cls (ls : List Int) (m : Nat) (c : Int) : (cls ls m).filter (fun x => decide (key ls x = c)) = if (m : Int) = c then cls ls m else [] := by
  by_cases h : (m : Int) = c
  · rw [if_pos h, List.filter_eq_self]
    intro x hx
    have := (cls_mem.1 hx).2.2
    simpa [h] using this.trans h
  · rw [if_neg h, List.filter_eq_nil_iff]
    intro x hx
    have := (cls_mem.1 hx).2.2
    simp only [decide_eq_true_eq]
    intro e
    exact h (this.symm.trans e)
theorem filt_ord (ls : List Int) (c : Int) : ∀ n : Nat, (ordN ls n).filter (fun x => decide (key ls x = c)) = if 1 ≤ c ∧ c ≤ (n : Int) then cls ls c.toNat else []
  | 0 => by rw [if_neg (by omega)]; rfl
  | n + 1 => by
    simp only [ordN]
    rw [List.filter_append, filt_ord ls c n, filt_cls]
    by_cases h : ((n + 1 : Nat) : Int) = c
    · rw [if_neg (by omega), if_pos h, if_pos (by omega), List.nil_append, ← h]
      rfl
    · rw [if_neg h, List.append_nil]
      by_cases h2 : 1 ≤ c ∧ c ≤ (n : Int)
      · rw [if_pos h2, if_pos (by omega)]
      · rw [if_neg h2, if_neg (by omega)]
theorem filt_posn {ls : List Int} (hv : ∀ x ∈ ls, 0 ≤ x ∧ x ≤ 15) (c : Int) : (posn ls).filter (fun x => decide (key ls x = c)) = if 1 ≤ c ∧ c ≤ 15 then cls ls c.toNat else [] := by
  unfold posn
  rw [filt_map]
  by_cases h : 1 ≤ c ∧ c ≤ 15
  · rw [if_pos h]
    unfold cls
    congr 1
    apply List.filter_congr
    intro i hi
    simp only [key, Int.toNat_natCast]
    by_cases e : ls.getD i 0 = c
    · have e2 : ls.getD i 0 = ((c.toNat : Nat) : Int) := by omega
      have e3 : 0 < ls.getD i 0 := by omega
      simp only [e, e2, decide_true, Bool.and_true, decide_eq_true_eq]
      simp; omega
    · have e2 : ¬ ls.getD i 0 = ((c.toNat : Nat) : Int) := by omega
      rw [decide_eq_false e, decide_eq_false e2, Bool.and_false]
  · rw [if_neg h]
    simp only [List.map_eq_nil_iff]
    rw [List.filter_eq_nil_iff]
    intro i hi hp
    have hi := List.mem_range.1 hi
    simp only [key, Int.toNat_natCast, Bool.and_eq_true, decide_eq_true_eq] at hp
    have := hv (ls.getD i 0) (by simp [List.getD_eq_getElem?_getD, hi])
    omega
theorem ord_sd (ls : List Int) : Sd (key ls) 0 (ord ls) 0 (ord ls).length := by
  have : ∀ n, Sd (key ls) 0 (ordN ls n) 0 (ordN ls n).length ∧ ∀ x ∈ ordN ls n, key ls x ≤ (n : Int) := by
    intro n
    induction n with
    | zero => exact ⟨Sd.small (by simp [ordN]), fun x hx => by simp [ordN] at hx⟩
    | succ n ih =>
      have hle : ∀ x ∈ ordN ls n, key ls x ≤ (n : Int) := ih.2
      have hcl : ∀ x ∈ cls ls (n + 1), key ls x = ((n + 1 : Nat) : Int) := fun x hx => (cls_mem.1 hx).2.2
      refine ⟨?_, ?_⟩
      · simp only [ordN, List.length_append]
        refine Sd.join (m := (ordN ls n).length) ?_ ?_ ?_
        · exact ih.1.congr (fun i _ h => getD_app1 h)
        · intro i j i1 i2 i3
          rw [getD_app2 i1, getD_app2 (by omega), hcl _ (getD_mem (by omega)), hcl _ (getD_mem (by omega))]
          exact Int.le_refl _
        · intro i j i1 i2 i3 i4
          rw [getD_app1 i2, getD_app2 i3, hcl _ (getD_mem (by omega))]
          have := hle _ (getD_mem (d := 0) i2)
          omega
      · intro x hx
        simp only [ordN, List.mem_append] at hx
        rcases hx with hx | hx
        · have := hle x hx; omega
        · have := hcl x hx; omega
  exact (this 15).1
theorem sort_ord {ls l2 : List Int} (hv : ∀ x ∈ ls, 0 ≤ x ∧ x ≤ 15) (hR : Rl (key ls) 0 (posn ls) l2 0 (posn ls).length) (hS : Sd (key ls) 0 l2 0 (posn ls).length) : l2 = ord ls := by
  refine unique (d := 0) (by rw [hR.len]; exact hS) (ord_sd ls) (fun c => ?_)
  rw [hR.same c, filt_posn hv]
  unfold ord
  rw [filt_ord]
  rfl
theorem posn_mem {ls : List Int} {x : Int} : x ∈ posn ls ↔ 0 ≤ x ∧ x.toNat < ls.length ∧ 0 < ls.getD x.toNat 0 := by
  unfold posn
  simp only [List.mem_map, List.mem_filter, List.mem_range, decide_eq_true_eq]
  constructor
  · rintro ⟨i, ⟨h1, h2⟩, rfl⟩
    exact ⟨by omega, by simpa using h1, by simpa using h2⟩
  · rintro ⟨h1, h2, h3⟩
    exact ⟨x.toNat, ⟨h2, h3⟩, by omega⟩
theorem cast_nodup {l : List Nat} (h : l.Nodup) : (l.map (fun i : Nat => (i : Int))).Nodup := by
  rw [List.Nodup, List.pairwise_map]
  exact List.Pairwise.imp (fun {a b} hab he => hab (Int.ofNat.inj he)) h
theorem posn_nodup (ls : List Int) : (posn ls).Nodup := cast_nodup (List.Pairwise.filter _ List.nodup_range)
theorem ordN_nodup (ls : List Int) : ∀ n, (ordN ls n).Nodup
  | 0 => by simp [ordN]
  | n + 1 => by
    simp only [ordN]
    rw [List.nodup_append]
    refine ⟨ordN_nodup ls n, cls_nodup ls _, ?_⟩
    intro a ha b hb e
    subst e
    obtain ⟨m, m1, m2, m3⟩ := ordN_mem.1 ha
    have h1 := (cls_mem.1 m3).2.2
    have h2 := (cls_mem.1 hb).2.2
    omega
theorem posn_len {ls : List Int} (hv : Vl ls) : (posn ls).length = (ord ls).length :=
  ((List.perm_ext_iff_of_nodup (posn_nodup ls) (ordN_nodup ls 15)).2 (fun x => by rw [posn_mem]; exact (ord_mem hv).symm)).length_eq
/-! ### The words one after the other -/
def nxt (ls : List Int) : Nat → Int
  | 0 => 0
  | k + 1 => wordOf ls ((ord ls).getD k 0).toNat + 1
def pln (ls : List Int) : Nat → Int
  | 0 => 0
  | k + 1 => (lenOf ls ((ord ls).getD k 0).toNat : Int)
theorem base_nn (ls : List Int) : ∀ n, 0 ≤ base ls n
  | 0 => by simp [base]
  | n + 1 => by
    have := base_nn ls n
    have := cnt_nonneg ls n
    simp only [base]
    omega
theorem left_base {ls : List Int} : ∀ n : Nat, n ≤ 15 → left (cntL ls) n = 2 ^ n - (base ls n + cnt ls n)
  | 0, _ => by simp [left, base, cnt]
  | n + 1, h => by
    simp only [left, base]
    rw [left_base n (by omega), cntL_get (by omega), Int.pow_succ]
    omega
theorem whole_left {C : List Int} {all : Int} (h : wholeB C all = true) {n : Nat} (hn : n ≤ 15) : 0 ≤ left C n := by
  rcases Nat.eq_zero_or_pos n with e | e
  · subst e; simp [left]
  · by_cases hl : left C n < 0
    · rw [whole_no e hn hl] at h
      cases h
    · omega
theorem word_lt {ls : List Int} {all : Int} (hw : wholeB (cntL ls) all = true) {n r : Nat} (h1 : 1 ≤ n) (h2 : n ≤ 15) (h : r < (cls ls n).length) : base ls n + (r : Int) < 2 ^ n := by
  have h3 := whole_left hw h2
  rw [left_base n h2] at h3
  have : cnt ls n = ((cls ls n).length : Int) := by unfold cnt; rw [if_neg (by omega)]
  omega
theorem pow_15 {n : Nat} (h : n ≤ 15) : (2 : Int) ^ n ≤ 32768 := by
  have : (2 : Nat) ^ n ≤ 2 ^ 15 := Nat.pow_le_pow_right (by decide) h
  have e : ((2 : Int) ^ n) = ((2 ^ n : Nat) : Int) := by simp
  rw [e]
  omega
/-- What is known of the symbol at k. -/
structure At (ls : List Int) (k : Nat) (s : Nat) : Prop where
  sym : (ord ls).getD k 0 = (s : Int)
  lt : s < ls.length
  one : 1 ≤ lenOf ls s
  top : lenOf ls s ≤ 15
  len : ls.getD s 0 = (lenOf ls s : Int)
  ge : pln ls k ≤ lenOf ls s
  nn : 0 ≤ pln ls k
  word : nxt ls k * 2 ^ (lenOf ls s - (pln ls k).toNat) = wordOf ls s
  w0 : 0 ≤ wordOf ls s
  w1 : wordOf ls s < 2 ^ lenOf ls s
theorem at_k {ls : List Int} {all : Int} (hw : wholeB (cntL ls) all = true) {k : Nat} (hk : k < (ord ls).length) : ∃ s, At ls k s := by
  obtain ⟨n, r, n1, n2, hr, e⟩ := ord_cls hk
  obtain ⟨t, t1, t2, t3, t4, t5⟩ := word_at n1 n2 hr
  have hlt := word_lt hw n1 n2 hr
  have hb := base_nn ls n
  cases k with
  | zero =>
    obtain ⟨s, s1, s2, s3, s4, s5, s6⟩ := first_word hk
    have hst : s = t := by rw [e] at s1; rw [t1] at s1; omega
    subst hst
    refine ⟨s, s1, s2, s3, s4, s5, by simp [pln], by simp [pln], by simp [nxt, s6], by omega, by rw [t4, t5]; exact hlt⟩
  | succ k =>
    obtain ⟨s, u, s1, u1, s2, u2, s3, s4, s5, s6, u6, u7⟩ := next_word hk
    have hut : u = t := by rw [e] at u1; rw [t1] at u1; omega
    subst hut
    refine ⟨u, u1, u2, by omega, s5, u6, by simp only [pln]; rw [s1]; simp; exact s4, by simp only [pln]; omega, ?_, by rw [t5]; omega, by rw [t4, t5]; exact hlt⟩
    simp only [nxt, pln]
    rw [s1, u7]
    simp
/-- The table of words. -/
def wd (ls : List Int) (s : Nat) : Int × Int := if 0 < lenOf ls s then (wordOf ls s, (lenOf ls s : Int)) else (0, 0)
def wordsK (ls : List Int) (k : Nat) : List (Int × Int) := (List.range ls.length).map (fun s : Nat => if (s : Int) ∈ (ord ls).take k then wd ls s else (0, 0))
def words (ls : List Int) : List (Int × Int) := (List.range ls.length).map (wd ls)
theorem wordsK_len (ls : List Int) (k : Nat) : (wordsK ls k).length = ls.length := by simp [wordsK]
theorem wordsK_zero (ls : List Int) : wordsK ls 0 = List.replicate ls.length (0, 0) := by
  simp [wordsK, List.map_const']
theorem wordsK_all {ls : List Int} (hv : Vl ls) {k : Nat} (hk : (ord ls).length ≤ k) : wordsK ls k = words ls := by
  unfold wordsK words
  rw [List.take_of_length_le hk]
  apply List.map_congr_left
  intro s hs
  have hs := List.mem_range.1 hs
  by_cases h : (s : Int) ∈ ord ls
  · rw [if_pos h]
  · rw [if_neg h]
    unfold wd
    rw [if_neg]
    intro h2
    exact h ((ord_mem hv).2 ⟨by omega, by simpa using hs, by simpa [lenOf] using h2⟩)
theorem wordsK_next {ls : List Int} {k s : Nat} (hk : k < (ord ls).length) (ha : At ls k s) : wordsK ls (k + 1) = (wordsK ls k).set s (wordOf ls s, (lenOf ls s : Int)) := by
  have e1 : (ord ls).take (k + 1) = (ord ls).take k ++ [(s : Int)] := by
    rw [List.take_succ_eq_append_getElem hk]
    congr 2
    have := ha.sym
    simpa [List.getD_eq_getElem?_getD, hk] using this
  apply List.ext_getElem?
  intro i
  rw [List.getElem?_set]
  by_cases hi : i < ls.length
  · by_cases e : s = i
    · subst e
      rw [if_pos rfl, if_pos (by rw [wordsK_len]; exact hi)]
      simp only [wordsK, List.getElem?_map, List.getElem?_range hi, Option.map_some]
      rw [if_pos (by rw [e1]; simp)]
      unfold wd
      rw [if_pos (by have := ha.one; omega)]
    · rw [if_neg e]
      simp only [wordsK, List.getElem?_map, List.getElem?_range hi, Option.map_some]
      by_cases hm : (i : Int) ∈ (ord ls).take k
      · rw [if_pos hm, if_pos (by rw [e1]; exact List.mem_append_left _ hm)]
      · rw [if_neg hm, if_neg]
        rw [e1]
        intro h
        rcases List.mem_append.1 h with h | h
        · exact hm h
        · have := List.mem_singleton.1 h
          omega
  · rw [List.getElem?_eq_none (by rw [wordsK_len]; omega)]
    have hs := ha.lt
    rw [if_neg (by omega), List.getElem?_eq_none (by rw [wordsK_len]; omega)]
theorem words_get {ls : List Int} {s : Nat} (h : s < ls.length) : (words ls).getD s (0, 0) = wd ls s := by
  simp [words, List.getD_eq_getElem?_getD, h]
/-! ### The lengths, one after the other -/
theorem most_snoc {ls : List Int} {k : Nat} (h : k < ls.length) : mostL (ls.take (k + 1)) = if mostL (ls.take k) < ls[k] then ls[k] else mostL (ls.take k) := by
  unfold mostL
  rw [List.take_succ_eq_append_getElem h, List.foldl_append]
  rfl
theorem most_nn (ls : List Int) : 0 ≤ mostL ls := by
  have : ∀ (l : List Int) (a : Int), 0 ≤ a → 0 ≤ l.foldl (fun a x => if a < x then x else a) a := by
    intro l
    induction l with
    | nil => intro a h; exact h
    | cons x l ih => intro a h; simp only [List.foldl_cons]; exact ih _ (by split <;> omega)
  exact this ls 0 (Int.le_refl _)
theorem ok_take {ls : List Int} {k : Nat} (h : ∀ i, i < k → 0 ≤ ls.getD i 0 ∧ ls.getD i 0 ≤ 15) (hk : ls.length ≤ k) : ∀ x ∈ ls, 0 ≤ x ∧ x ≤ 15 := by
  intro x hx
  obtain ⟨i, hi⟩ := List.getElem?_of_mem hx
  have hlt := (List.getElem?_eq_some_iff.1 hi).1
  have := h i (by omega)
  simpa [List.getD_eq_getElem?_getD, hi] using this
theorem cntL_bound {ls : List Int} (h : ls.length ≤ 320) : ∀ i, 0 ≤ (cntL ls).getD i 0 ∧ (cntL ls).getD i 0 ≤ 320 := by
  intro i
  rcases Nat.lt_or_ge i 16 with hi | hi
  · rw [cntL_get hi]
    have := cnt_nonneg ls i
    have := cnt_le ls i
    omega
  · rw [List.getD_eq_getElem?_getD, List.getElem?_eq_none (by rw [cntL_len]; exact hi)]
    simp
theorem posn_at (ls : List Int) : ∀ i, i < (posn ls).length → 0 ≤ (posn ls).getD i 0 ∧ (posn ls).getD i 0 < (ls.length : Int) := by
  intro i hi
  have := posn_mem.1 (getD_mem (d := 0) hi)
  omega
theorem ok_snoc {ls : List Int} {k : Nat} (hok : ∀ i, i < k → 0 ≤ ls.getD i 0 ∧ ls.getD i 0 ≤ 15) (h : 0 ≤ ls.getD k 0 ∧ ls.getD k 0 ≤ 15) : ∀ i, i < k + 1 → 0 ≤ ls.getD i 0 ∧ ls.getD i 0 ≤ 15 := by
  intro i hi
  by_cases e : i = k
  · subst e; exact h
  · exact hok i (by omega)
theorem step_zero {ls : List Int} {k : Nat} {x : Int} (h : k < ls.length) (hx : x = ls[k]) (h0 : x = 0) : cntL (ls.take (k + 1)) = cntL (ls.take k) ∧ posn (ls.take (k + 1)) = posn (ls.take k) ∧ mostL (ls.take (k + 1)) = mostL (ls.take k) := by
  have hz : ls[k] = 0 := by omega
  refine ⟨cntL_same h hz, ?_, ?_⟩
  · rw [posn_snoc h, if_neg (by omega), List.append_nil]
  · rw [most_snoc h, if_neg]
    have := most_nn (ls.take k)
    omega
theorem step_pos {ls : List Int} {k : Nat} {x : Int} (h : k < ls.length) (hx : x = ls[k]) (h0 : 0 < x) (h1 : x ≤ 15) : (cntL (ls.take k)).set x.toNat ((cntL (ls.take k)).getD x.toNat 0 + 1) = cntL (ls.take (k + 1)) ∧ posn (ls.take k) ++ [(k : Int)] = posn (ls.take (k + 1)) ∧ (posn (ls.take k)).length + 1 = (posn (ls.take (k + 1))).length ∧ (if mostL (ls.take k) < x then x else mostL (ls.take k)) = mostL (ls.take (k + 1)) := by
  subst hx
  refine ⟨(cntL_snoc h h0 h1).symm, ?_, ?_, (most_snoc h).symm⟩
  · rw [posn_snoc h, if_pos h0]
  · rw [posn_snoc h, if_pos h0]; simp
theorem posn_nil : posn [] = [] := rfl
theorem most_nil : mostL [] = 0 := rfl
theorem newE_long {ls : List Int} (h : 320 < ls.length) : newE ls = 1 := if_pos h
theorem newE_bad {ls : List Int} {k : Nat} (h : ¬ 320 < ls.length) (hk : k < ls.length) (hb : ls.getD k 0 < 0 ∨ 15 < ls.getD k 0) : newE ls = 1 := by
  unfold newE
  rw [if_neg h, if_neg]
  intro ho
  unfold okB at ho
  rw [List.all_eq_true] at ho
  have := ho (ls.getD k 0) (by simp [List.getD_eq_getElem?_getD, hk])
  simp only [decide_eq_true_eq] at this
  omega
theorem newE_ok {ls : List Int} (h : ¬ 320 < ls.length) (hv : ∀ x ∈ ls, 0 ≤ x ∧ x ≤ 15) : newE ls = if wholeB (cntL ls) ((posn ls).length : Int) = true then 0 else 4 := by
  unfold newE
  rw [if_neg h, if_pos]
  unfold okB
  rw [List.all_eq_true]
  intro x hx
  simpa using hv x hx
theorem newE_vl {ls : List Int} (h : newE ls = 0) : Vl ls ∧ wholeB (cntL ls) ((posn ls).length : Int) = true := by
  unfold newE at h
  split at h
  · omega
  · split at h
    · rename_i ho
      split at h
      · rename_i hw
        refine ⟨⟨by omega, ?_⟩, hw⟩
        unfold okB at ho
        rw [List.all_eq_true] at ho
        intro x hx
        simpa using ho x hx
      · omega
    · omega
/-! ### A symbol's word, asked -/
def lkW (ls : List Int) (x : Int) : Int := if 0 ≤ x ∧ x < ls.length then (wd ls x.toNat).1 else 0
def lkN (ls : List Int) (x : Int) : Int := if 0 ≤ x ∧ x < ls.length then (wd ls x.toNat).2 else 0
def lkB (ls : List Int) (x : Int) : Bool := decide (0 ≤ x ∧ x < ls.length ∧ (wd ls x.toNat).2 ≠ 0)
theorem wd_zero {ls : List Int} {s : Nat} (h : (wd ls s).2 = 0) : (wd ls s).1 = 0 := by
  unfold wd at h ⊢
  split at h
  · simp at h; omega
  · rename_i h2; rw [if_neg h2]
theorem lk_none {ls : List Int} {x : Int} (h : x < 0 ∨ (ls.length : Int) ≤ x ∨ (wd ls x.toNat).2 = 0) : lkW ls x = 0 ∧ lkN ls x = 0 ∧ lkB ls x = false := by
  unfold lkW lkN lkB
  by_cases hx : 0 ≤ x ∧ x < ls.length
  · have h3 : (wd ls x.toNat).2 = 0 := by omega
    rw [if_pos hx, if_pos hx, wd_zero h3, h3]
    exact ⟨rfl, rfl, by simp⟩
  · rw [if_neg hx, if_neg hx]
    refine ⟨rfl, rfl, ?_⟩
    rw [decide_eq_false_iff_not]
    omega
theorem lk_some {ls : List Int} {x : Int} (h0 : 0 ≤ x) (h1 : x < ls.length) (h : (wd ls x.toNat).2 ≠ 0) : lkW ls x = (wd ls x.toNat).1 ∧ lkN ls x = (wd ls x.toNat).2 ∧ lkB ls x = true := by
  unfold lkW lkN lkB
  rw [if_pos ⟨h0, h1⟩, if_pos ⟨h0, h1⟩]
  exact ⟨rfl, rfl, by simp [h0, h1, h]⟩
end Go.HuffP

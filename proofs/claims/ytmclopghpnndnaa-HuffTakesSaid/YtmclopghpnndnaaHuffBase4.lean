/-
  The document's search of a word.
-/
import Derived.Test.YtmclopghpnndnaaHuffBase3
namespace Go.HuffP
set_option linter.unusedVariables false
set_option linter.unusedSimpArgs false
theorem wd_none {ls : List Int} {s : Nat} (h : ls.getD s 0 = 0) : (wd ls s).2 = 0 := by
  unfold wd
  rw [if_neg (by unfold lenOf; omega)]
def bk (ls : List Int) (n : Nat) : Nat → Int
  | 0 => base ls n
  | k + 1 => bk ls n k + 1
theorem bk_eq (ls : List Int) (n : Nat) : ∀ k, bk ls n k = base ls n + (k : Int)
  | 0 => by simp [bk]
  | k + 1 => by simp only [bk]; rw [bk_eq ls n k]; omega
/-- What is known of a symbol that has a word. -/
structure Sy (ls : List Int) (x : Int) (L r : Nat) : Prop where
  one : 1 ≤ L
  top : L ≤ 15
  lt : r < (cls ls L).length
  get : (cls ls L).getD r 0 = x
  w : lkW ls x = base ls L + (r : Int)
  n : lkN ls x = (L : Int)
  b : lkB ls x = true
theorem sym_of {ls : List Int} (hV : Vl ls) {x : Int} (h0 : 0 ≤ x) (h1 : x < ls.length) (h : ls.getD x.toNat 0 ≠ 0) : ∃ L r, Sy ls x L r := by
  have hlt : x.toNat < ls.length := by omega
  have hb := hV.2 (ls.getD x.toNat 0) (by simp [List.getD_eq_getElem?_getD, hlt])
  have hlen : ls.getD x.toNat 0 = (lenOf ls x.toNat : Int) := by unfold lenOf; omega
  obtain ⟨t, ht⟩ := cls_take hlt hlen
  have hp : 0 < lenOf ls x.toNat := by omega
  have hw : wd ls x.toNat = (wordOf ls x.toNat, (lenOf ls x.toNat : Int)) := by unfold wd; rw [if_pos hp]
  obtain ⟨e1, e2, e3⟩ := lk_some h0 h1 (by rw [hw]; simp only; omega)
  refine ⟨lenOf ls x.toNat, (cls (ls.take x.toNat) (lenOf ls x.toNat)).length, by omega, by omega, ?_, ?_, ?_, ?_, e3⟩
  · rw [ht]; simp
  · rw [ht, List.getD_eq_getElem?_getD, List.getElem?_append_right (Nat.le_refl _), Nat.sub_self]
    simp
    omega
  · rw [e1, hw]; rfl
  · rw [e2, hw]
theorem sym_hit {ls : List Int} {x : Int} {L r m k : Nat} (hs : Sy ls x L r) (hm : m < 15) (hk : k < (cls ls (m + 1)).length) (h : (cls ls (m + 1)).getD k 0 = x) : m + 1 = L ∧ k = r := by
  have g1 : (cls ls (m + 1))[k]? = some x := by rw [← h]; simp [List.getD_eq_getElem?_getD, hk]
  have g2 : (cls ls L)[r]? = some x := by rw [← hs.get]; simp [List.getD_eq_getElem?_getD, hs.lt]
  have m1 := (cls_mem.1 (List.mem_of_getElem? g1)).2.2
  have m2 := (cls_mem.1 (List.mem_of_getElem? g2)).2.2
  have e : m + 1 = L := by omega
  subst e
  exact ⟨rfl, (List.getElem?_inj hk (cls_nodup ls _)).1 (g1.trans g2.symm)⟩
theorem sym_end {ls : List Int} {x : Int} {L r m k : Nat} (hs : Sy ls x L r) (h1 : m < L) (h2 : m + 1 = L → k ≤ r) (hk : (cls ls (m + 1)).length ≤ k) : m + 1 < L := by
  have := hs.lt
  by_cases e : m + 1 = L
  · subst e; have := h2 rfl; omega
  · omega
theorem sym_miss {ls : List Int} {x : Int} {L r m k : Nat} (hs : Sy ls x L r) (h : m + 1 = L → k ≤ r) (hne : ¬ (cls ls (m + 1)).getD k 0 = x) : m + 1 = L → k + 1 ≤ r := by
  intro e
  have h2 := h e
  by_cases h3 : k = r
  · exfalso
    subst h3
    subst e
    exact hne hs.get
  · omega
theorem cnt_cls (ls : List Int) (m : Nat) : cnt ls (m + 1) = ((cls ls (m + 1)).length : Int) := by unfold cnt; rw [if_neg (by omega)]
theorem off_le (ls : List Int) {m k : Nat} (hm : m < 15) (hk : k < (cls ls (m + 1)).length) : off ls (m + 1) + k < (ord ls).length := by
  have h1 := off_succ ls (n := m + 1) (by omega)
  have h2 := off_mono ls (show m + 1 + 1 ≤ 16 by omega)
  rw [ord_len]
  omega
theorem full_le {ls : List Int} {all : Int} (hw : wholeB (cntL ls) all = true) {n : Nat} (hn : n ≤ 15) : base ls n + cnt ls n ≤ 32768 := by
  have h3 := whole_left hw hn
  rw [left_base n hn] at h3
  have := pow_15 hn
  omega
theorem row_ends {ls : List Int} {m k : Nat} (h : k = (cls ls (m + 1)).length) : bk ls (m + 1) k = base ls (m + 1) + cnt ls (m + 1) ∧ off ls (m + 1) + k = off ls (m + 1 + 1) := by
  subst h
  refine ⟨by rw [bk_eq, cnt_cls], (off_succ ls (by omega)).symm⟩
end Go.HuffP
namespace Go.Sl
theorem shl_base {ls : List Int} {all : Int} (hw : HuffP.wholeB (HuffP.cntL ls) all = true) {m : Nat} (hm : m ≤ 15) : IntKind.i64.wrap ((HuffP.base ls m + HuffP.cnt ls m) * 2 ^ (min (1 : Int).toNat IntKind.i64.bits)) = HuffP.base ls (m + 1) := by
  have h1 := HuffP.full_le hw hm
  have h2 := HuffP.base_nn ls m
  have h3 := HuffP.cnt_nonneg ls m
  rw [show min (1 : Int).toNat IntKind.i64.bits = 1 from rfl]
  simp only [HuffP.base]
  rw [Int.mul_comm 2, Int.pow_one]
  exact wrapI (by omega) (by omega)
end Go.Sl

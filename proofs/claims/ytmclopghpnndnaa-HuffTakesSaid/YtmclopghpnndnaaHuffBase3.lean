/-
  The document's code in memory; its lists.
-/
import Derived.Test.YtmclopghpnndnaaHuffBase2
namespace Go.HuffP
set_option linter.unusedVariables false
set_option linter.unusedSimpArgs false
def cntZ (ls : List Int) : List Int := (List.range 16).map (fun n => ((cls ls n).length : Int))
theorem cntZ_len (ls : List Int) : (cntZ ls).length = 16 := by simp [cntZ]
theorem cntZ_get {ls : List Int} {n : Nat} (h : n < 16) : (cntZ ls).getD n 0 = ((cls ls n).length : Int) := by simp [cntZ, List.getD_eq_getElem?_getD, h]
theorem cntZ_nil : cntZ [] = List.replicate 16 0 := by
  unfold cntZ
  simp only [cls_zero]
  rfl
theorem cntZ_bound {ls : List Int} (h : ls.length ≤ 320) : ∀ i, 0 ≤ (cntZ ls).getD i 0 ∧ (cntZ ls).getD i 0 ≤ 320 := by
  intro i
  rcases Nat.lt_or_ge i 16 with hi | hi
  · rw [cntZ_get hi]
    have := cls_len_le ls i
    omega
  · rw [List.getD_eq_getElem?_getD, List.getElem?_eq_none (by rw [cntZ_len]; exact hi)]
    simp
theorem cntZ_snoc {ls : List Int} {k : Nat} {x : Int} (h : k < ls.length) (hx : x = ls[k]) (h1 : 0 ≤ x) (h2 : x ≤ 15) : (cntZ (ls.take k)).set x.toNat ((cntZ (ls.take k)).getD x.toNat 0 + 1) = cntZ (ls.take (k + 1)) := by
  subst hx
  symm
  apply List.ext_getElem?
  intro i
  by_cases hi : i < 16
  · rw [List.getElem?_set]
    by_cases he : ls[k].toNat = i
    · rw [if_pos he, if_pos (by rw [cntZ_len]; omega), he, cntZ_get hi]
      simp only [cntZ, List.getElem?_map, List.getElem?_range hi, Option.map_some]
      rw [cls_snoc h, if_pos (by omega)]
      simp
    · rw [if_neg he]
      simp only [cntZ, List.getElem?_map, List.getElem?_range hi, Option.map_some]
      rw [cls_snoc h, if_neg (by omega), List.append_nil]
  · rw [List.getElem?_eq_none (by rw [cntZ_len]; omega), List.getElem?_eq_none (by rw [List.length_set, cntZ_len]; omega)]
theorem cntZ_set (ls : List Int) : (cntZ ls).set (0 : Int).toNat 0 = cntL ls := by
  apply List.ext_getElem?
  intro i
  rw [show (0 : Int).toNat = 0 from rfl, List.getElem?_set]
  by_cases he : 0 = i
  · subst he
    rw [if_pos rfl, if_pos (by rw [cntZ_len]; omega)]
    rfl
  · rw [if_neg he]
    by_cases hi : i < 16
    · simp only [cntZ, cntL, List.getElem?_map, List.getElem?_range hi, Option.map_some]
      unfold cnt
      rw [if_neg (by omega)]
    · rw [List.getElem?_eq_none (by rw [cntZ_len]; omega), List.getElem?_eq_none (by rw [cntL_len]; omega)]
theorem take_snoc {ls : List Int} {k : Nat} {x : Int} (h : k < ls.length) (hx : x = ls[k]) : ls.take k ++ [x] = ls.take (k + 1) := by
  subst hx; exact (List.take_succ_eq_append_getElem h).symm
theorem many_pos {ls : List Int} {k : Nat} {x : Int} (h : k < ls.length) (hx : x = ls[k]) (h0 : 0 < x) : ((posn (ls.take k)).length : Int) + 1 = ((posn (ls.take (k + 1))).length : Int) := by
  rw [posn_snoc h, if_pos (by omega)]; simp
theorem many_zero {ls : List Int} {k : Nat} {x : Int} (h : k < ls.length) (hx : x = ls[k]) (h0 : x ≤ 0) : ((posn (ls.take k)).length : Int) = ((posn (ls.take (k + 1))).length : Int) := by
  rw [posn_snoc h, if_neg (by omega)]; simp
def sy (ls : List Int) (m i : Nat) : List Int := ordN ls m ++ cls (ls.take i) (m + 1)
theorem sy_zero (ls : List Int) (m : Nat) : sy ls m 0 = ordN ls m := by simp [sy, cls_zero]
theorem sy_all {ls : List Int} {m i : Nat} (h : ls.length ≤ i) : sy ls m i = ordN ls (m + 1) := by simp [sy, ordN, List.take_of_length_le h]
theorem sy_yes {ls : List Int} {m i : Nat} {x : Int} (h : i < ls.length) (hx : x = ls[i]) (he : x = (m : Int) + 1) : sy ls m i ++ [(i : Int)] = sy ls m (i + 1) := by
  unfold sy
  rw [cls_snoc h, if_pos (by rw [← hx, he]; rfl), List.append_assoc]
theorem sy_len {ls : List Int} {m i : Nat} {x : Int} (h : i < ls.length) (hx : x = ls[i]) (he : x = (m : Int) + 1) : (sy ls m i).length + 1 = (sy ls m (i + 1)).length := by
  rw [← sy_yes h hx he]; simp
theorem sy_no {ls : List Int} {m i : Nat} {x : Int} (h : i < ls.length) (hx : x = ls[i]) (he : ¬ x = (m : Int) + 1) : sy ls m i = sy ls m (i + 1) := by
  unfold sy
  rw [cls_snoc h, if_neg (by rw [← hx]; exact he), List.append_nil]
theorem ord15 (ls : List Int) : ordN ls 15 = ord ls := rfl
theorem ordN_le (ls : List Int) : ∀ n, (ordN ls n).length ≤ n * ls.length
  | 0 => by simp [ordN]
  | n + 1 => by
    have := ordN_le ls n
    have := cls_len_le ls (n + 1)
    simp only [ordN, List.length_append]
    rw [Nat.succ_mul]
    omega
theorem sy_le {ls : List Int} {m i : Nat} (hm : m ≤ 15) (hl : ls.length ≤ 320) : (sy ls m i).length ≤ 10000 := by
  have h1 := ordN_le ls m
  have h2 := cls_len_le (ls.take i) (m + 1)
  have h3 : m * ls.length ≤ 15 * 320 := Nat.mul_le_mul hm hl
  have h4 : (ls.take i).length ≤ ls.length := by rw [List.length_take]; omega
  simp only [sy, List.length_append]
  omega
end Go.HuffP
namespace Go.Sl
def RC (b : Nat) (ls : List Int) : HProp := fun w0 h => ∃ i : Cv, True ∧ sats w0 [Cel b 65 (CA [] .i64 (HuffP.cntL ls) [.slice i.p1 (HuffP.ord ls).length i.c1, .slice i.p2 ls.length i.c2]), Row I3 i.p1 (HuffP.ord ls).length i.c1 (HuffP.ord ls), Row I3 i.p2 ls.length i.c2 ls] h
theorem rc_close {b c1 c2 : Nat} {p1 p2 : Option Addr} {ls : List Int} {w0 : World} {h : Hp}
    (hh : sats w0 [Cel b 65 (CA [] .i64 (HuffP.cntL ls) [.slice p1 (HuffP.ord ls).length c1, .slice p2 ls.length c2]), Row I3 p1 (HuffP.ord ls).length c1 (HuffP.ord ls), Row I3 p2 ls.length c2 ls] h) : RC b ls w0 h := ⟨⟨p1, c1, p2, c2⟩, trivial, hh⟩
end Go.Sl

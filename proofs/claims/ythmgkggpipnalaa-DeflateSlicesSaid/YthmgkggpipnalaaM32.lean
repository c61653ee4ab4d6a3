/- Steps of the proof: the walks of the functions that the statement reaches; printed by a program of ours. -/
import Derived.Test.YthmgkggpipnalaaM31
/-
  What is written is read: codes of its own; the shortest.
-/
namespace Go.DefP
set_option linter.unusedVariables false
set_option linter.unusedSimpArgs false
open Go.BitP Go.HuffP Go.InfP
theorem ordr_nodup : ∀ k : Nat, k < 19 → ∀ i : Nat, i < 19 → ((i : Int) ∈ ordr.take (k + 1) ↔ ((i : Int) ∈ ordr.take k ∨ i = (ordr.getD k 0).toNat)) := by decide +kernel
theorem ordr_all : ∀ i : Nat, i < 19 → (i : Int) ∈ ordr.take 19 := by decide +kernel
theorem ordr_toNat : ∀ k : Nat, k < 19 → (ordr.getD k 0).toNat < 19 := by decide +kernel
theorem frs_get {o f : List Int} {a : Nat} (h : ∀ k, k < 19 → numL o (a + 3 * k) 3 = f.getD (ordr.getD k 0).toNat 0) : ∀ k : Nat, k ≤ 19 → ∀ i : Nat, i < 19 → (i : Int) ∈ ordr.take k → (frs o a k).getD i 0 = f.getD i 0
  | 0, _, i, _, hm => by simp at hm
  | k + 1, hk, i, hi, hm => by
    have hl := frs_len o a k
    have ho := ordr_toNat k (by omega)
    simp only [frs]
    rw [h k (by omega)]
    by_cases e : i = (ordr.getD k 0).toNat
    · rw [← e, List.getD_eq_getElem?_getD, List.getElem?_set_self (by omega)]; rfl
    · rw [List.getD_eq_getElem?_getD, List.getElem?_set_ne (Ne.symm e), ← List.getD_eq_getElem?_getD]
      refine frs_get h k (by omega) i hi ?_
      rcases (ordr_nodup k (by omega) i hi).1 hm with h1 | h1
      · exact h1
      · exact absurd h1 e
theorem frs_all {o f : List Int} {a : Nat} (hf : f.length = 19) (h : ∀ k, k < 19 → numL o (a + 3 * k) 3 = f.getD (ordr.getD k 0).toNat 0) : frs o a 19 = f := by
  refine List.ext_getElem (by rw [frs_len, hf]) fun i h1 h2 => ?_
  have hi : i < 19 := by omega
  have := frs_get h 19 (Nat.le_refl _) i hi (ordr_all i hi)
  simpa [List.getD_eq_getElem?_getD, h1, h2] using this
theorem ordB_split (f : List Int) {k : Nat} (h : k < 19) : ∃ r, ordB f 19 = ordB f k ++ lowB (f.getD (ordr.getD k 0).toNat 0) 3 ++ r := by
  have key : ∀ m, ∀ j, j + m = 19 → ∃ r, ordB f 19 = ordB f j ++ r := by
    intro m
    induction m with
    | zero => intro j hj; exact ⟨[], by rw [List.append_nil]; congr 1; omega⟩
    | succ m ih =>
      intro j hj
      obtain ⟨r, hr⟩ := ih (j + 1) (by omega)
      refine ⟨lowB (f.getD (ordr.getD j 0).toNat 0) 3 ++ r, ?_⟩
      rw [hr, ← ordB_next f (by omega), List.append_assoc]
  obtain ⟨r, hr⟩ := key (19 - (k + 1)) (k + 1) (by omega)
  exact ⟨r, by rw [hr, ← ordB_next f h]⟩
theorem bits_split (f l : List Int) {k : Nat} (h : k < l.length) : HuffP.bits f l = HuffP.bits f (l.take k) ++ wb f l[k] ++ HuffP.bits f (l.drop (k + 1)) := by
  rw [bitsF_next h]
  have : HuffP.bits f (l.take (k + 1) ++ l.drop (k + 1)) = HuffP.bits f (l.take (k + 1)) ++ HuffP.bits f (l.drop (k + 1)) := by unfold HuffP.bits; exact List.flatMap_append
  rw [← this, List.take_append_drop]
/-- The lengths, one after another. -/
theorem lnGo_all {bs o f all u r : List Int} (h : Pq bs o) (hE : newE f = 0) (hall : ∀ x ∈ all, (0 ≤ x ∧ x ≤ 15) ∧ x < f.length ∧ lkB f x = true) (e : bs = u ++ HuffP.bits f all ++ r) : ∀ m k, k + m = all.length → lnGo o f all.length m (all.take k) (u ++ HuffP.bits f (all.take k)).length = .ok (all, (u ++ HuffP.bits f all).length) := by
  intro m
  induction m with
  | zero =>
    intro k hk
    have : k = all.length := by omega
    subst this
    rw [List.take_length]; exact lnGo_end (Nat.le_refl _)
  | succ m ih =>
    intro k hk
    have hk2 : k < all.length := by omega
    have hx := hall all[k] (List.getElem_mem hk2)
    have hs := sym_wb (u := u ++ HuffP.bits f (all.take k)) (r := HuffP.bits f (all.drop (k + 1)) ++ r) hE (s := all[k]) hx.1.1 hx.2.1 hx.2.2 h (by rw [e, bits_split f all hk2]; simp only [List.append_assoc])
    rw [List.append_assoc, bitsF_next hk2] at hs
    have hst := lnStep_3 (l := all.take k) hs (rep_lt (B := o) (l := all.take k) (a := (u ++ HuffP.bits f (all.take (k + 1))).length) (s := all[k]) (by omega))
    have e1 : all.take k ++ List.replicate (1 : Int).toNat all[k] = all.take (k + 1) := by
      rw [List.take_add_one, List.getElem?_eq_getElem hk2]; rfl
    rw [e1] at hst
    rw [lnGo_next (by rw [List.length_take]; omega) (by rw [List.length_take]; omega) hst (by rw [List.length_take]; omega)]
    exact ih (k + 1) (by omega)
theorem dy_res {B t : List Int} {mo : Int} (hl : B.length ≤ 4194304) (hmo : (B.length : Int) ≤ mo) (hB : Byt B) (ht : Byt t) : Res (dyS (toks B) ++ t) mo (B, ((dyS (toks B)).length : Int), 0) := by
  have hT := toks_at B
  have hok := hT.ok hB
  have htl : (toks B).length ≤ 4194304 := by have := toks_le hB; omega
  generalize hto : toks B = l at *
  have hq := byB_pq (dyB_01 l) ht
  generalize hoo : byB (dyB l) ++ t = o at hq
  have hgA := gdA htl
  have hgB := gdB htl
  have hgF := gdF l
  have hAl := dA_len htl
  have hBl := dB_len htl
  have hFl := dF_len l
  have hLl := dAll_len htl
  -- the head
  have eH : dyB l = [] ++ lowB 1 1 ++ (lowB 2 2 ++ lowB 29 5 ++ lowB 29 5 ++ lowB 15 4 ++ ordB (dF l) 19 ++ HuffP.bits (dF l) (dAll l) ++ (toksB (dA l) (dB l) l ++ wb (dA l) 256)) := by unfold dyB dH0; simp only [List.append_assoc, List.nil_append]
  have n1 := (pq_num (u := []) (x := 1) (n := 1) hq eH (by decide)).1
  have n2 := (pq_num (u := lowB 1 1) (x := 2) (n := 2) (r := lowB 29 5 ++ lowB 29 5 ++ lowB 15 4 ++ ordB (dF l) 19 ++ HuffP.bits (dF l) (dAll l) ++ (toksB (dA l) (dB l) l ++ wb (dA l) 256)) hq (by unfold dyB dH0; simp only [List.append_assoc]) (by decide)).1
  have n3 := (pq_num (u := lowB 1 1 ++ lowB 2 2) (x := 29) (n := 5) (r := lowB 29 5 ++ lowB 15 4 ++ ordB (dF l) 19 ++ HuffP.bits (dF l) (dAll l) ++ (toksB (dA l) (dB l) l ++ wb (dA l) 256)) hq (by unfold dyB dH0; simp only [List.append_assoc]) (by decide)).1
  have n4 := (pq_num (u := lowB 1 1 ++ lowB 2 2 ++ lowB 29 5) (x := 29) (n := 5) (r := lowB 15 4 ++ ordB (dF l) 19 ++ HuffP.bits (dF l) (dAll l) ++ (toksB (dA l) (dB l) l ++ wb (dA l) 256)) hq (by unfold dyB dH0; simp only [List.append_assoc]) (by decide)).1
  have n5 := pq_num (u := lowB 1 1 ++ lowB 2 2 ++ lowB 29 5 ++ lowB 29 5) (x := 15) (n := 4) (r := ordB (dF l) 19 ++ HuffP.bits (dF l) (dAll l) ++ (toksB (dA l) (dB l) l ++ wb (dA l) 256)) hq (by unfold dyB dH0; simp only [List.append_assoc]) (by decide)
  have eO : ∀ k, k < 19 → numL o (17 + 3 * k) 3 = (dF l).getD (ordr.getD k 0).toNat 0 ∧ 17 + 3 * k + 3 ≤ 8 * o.length := fun k hk => by
    obtain ⟨r, hr⟩ := ordB_split (dF l) hk
    have h7 := dF_7 (l := l) (ordr.getD k 0).toNat
    have := pq_num (u := dH0 ++ ordB (dF l) k) (x := (dF l).getD (ordr.getD k 0).toNat 0) (n := 3) (r := r ++ HuffP.bits (dF l) (dAll l) ++ (toksB (dA l) (dB l) l ++ wb (dA l) 256)) hq (by unfold dyB; rw [hr]; simp only [List.append_assoc]) ⟨h7.1, by have : (2 : Int) ^ 3 = 8 := (by decide); omega⟩
    rw [show (dH0 ++ ordB (dF l) k).length = 17 + 3 * k from by rw [List.length_append, ordB_len _ _ (by omega)]; simp only [dH0, List.length_append, lowB_len]] at this
    exact this
  simp only [List.length_append, lowB_len, List.length_nil] at n1 n2 n3 n4 n5
  have hHL : hL o 3 = 286 := by unfold hL; rw [n3]; rfl
  have hHD : hD o 3 = 30 := by unfold hD; rw [n4]; rfl
  have hHC : hC o 3 = 19 := by unfold hC; rw [n5.1]; rfl
  have hTC : toldC o 3 = dF l := by unfold toldC; rw [hHC]; exact frs_all hFl (fun k hk => (eO k hk).1)
  have hTA : toldA o 3 = 74 := by unfold toldA; rw [hHC]
  have hTN : toldN o 3 = 316 := by unfold toldN; rw [hHL, hHD]
  have hlast := (eO 18 (by omega)).2
  have hUl : (dH0 ++ ordB (dF l) 19).length = 74 := by rw [List.length_append, ordB_len _ _ (Nat.le_refl _)]; simp only [dH0, List.length_append, lowB_len]
  have hgo := lnGo_all (u := dH0 ++ ordB (dF l) 19) (r := toksB (dA l) (dB l) l ++ wb (dA l) 256) (all := dAll l) hq hgF.code (fun x hx => ⟨dAll_in htl hx, dF_has htl hx⟩) rfl 316 0 (by omega)
  rw [List.take_zero, bits_nil, List.append_nil, hUl, hLl] at hgo
  have hta : (dAll l).take 286 = dA l := by unfold dAll; rw [List.take_append_of_le_length (by omega), List.take_of_length_le (by omega)]
  have htd : (dAll l).drop 286 = dB l := by unfold dAll; rw [List.drop_append_of_le_length (by omega), List.drop_of_length_le (by omega), List.nil_append]
  have hend : (dAll l).getD 256 0 ≠ 0 := by
    have h1 : (dAll l).getD 256 0 = (dA l).getD 256 0 := by unfold dAll; exact getD_app _ _ _ (by omega)
    have h2 := cntA_mono l cA0 (i := 256) (by rw [cA0_len]; omega)
    rw [cA0_end] at h2
    have h3 := (hgA.pos 256 (by rw [fA_len]; omega) ((rarF_pos (by rw [cntA_len, cA0_len]; omega)).2 (by omega))).1
    omega
  have htold := told_7 (B := o) (a := 3) (by omega) (by rw [hHL, hHD]; omega) (by rw [hTA]; omega) (by rw [hTC]; exact hgF.code) (by rw [hTC, hTN, hTA]; exact hgo) (by rw [hHL, hta]; exact hgA.code) (by rw [hHL, htd]; exact hgB.code) hend
  rw [hHL, hta, htd] at htold
  have hb := beg_dy (B := o) (s := InfP.start) (by show 0 + 3 ≤ _; omega) n2 htold
  have h1 := (one_b (B := o) (mo := mo) (s := InfP.start) (by decide) rfl).trans hb
  have hz : Rq (dA l) (dB l) o mo _ (dH0 ++ ordB (dF l) 19 ++ HuffP.bits (dF l) (dAll l)).length [] := ⟨Goes.one rfl h1, rfl, rfl, by show ¬ (2 : Int) = -1; decide, by show ¬ (2 : Int) = 0; decide, rfl, rfl, by show decide (numL o 0 1 = 1) = true; rw [n1]; rfl, rfl, rfl⟩
  have := res_of hmo hB hT hgA.code hgB.code (dFits hok htl) hq hz rfl
  unfold dyS
  rw [hoo, byB_len]
  exact this
theorem sh_res {B t : List Int} (hl : B.length ≤ 4194304) (hB : Byt B) (ht : Byt t) : Res (shF B ++ t) B.length (B, ((shF B).length : Int), 0) := by
  rcases shF_or B with h | h | h <;> rw [h]
  · exact (stF_res hl hB ht).1
  · exact fx_res (Int.le_refl _) hB ht
  · exact dy_res hl (Int.le_refl _) hB ht
theorem shF_byt {B : List Int} (hl : B.length ≤ 4194304) (hB : Byt B) : Byt (shF B) := by
  rcases shF_or B with h | h | h <;> rw [h]
  · refine blks_byt (chk 64 B) (fun X hX => ⟨chk_ok 64 B (by omega) X hX, fun x hx => hB x ?_⟩)
    rw [← chk_flat 64 B]; exact List.mem_flatten.2 ⟨X, hX, hx⟩
  · exact byB_byt (fxB_01 _)
  · exact byB_byt (dyB_01 _)
end Go.DefP

/-
  A row of one byte is made small.
-/
namespace Go.DefP
set_option linter.unusedVariables false
set_option linter.unusedSimpArgs false
open Go.BitP Go.HuffP Go.InfP
section
variable {B : List Int} {b : Int}
def Cst (B : List Int) (b : Int) : Prop := ∀ i, i < B.length → B.getD i 0 = b
theorem hs_cst (hC : Cst B b) {a : Nat} (h : a + 3 ≤ B.length) : hs B a = hs3 b b b := by
  unfold hs; rw [hC a (by omega), hC (a + 1) (by omega), hC (a + 2) (by omega)]
theorem alk_le (o a : Nat) : alk B o a ≤ 258 ∧ (alk B o a ≤ B.length - a) := by
  have h := alk_ok B o a
  have := h.le
  rcases h.room with h1 | h1 <;> omega
theorem alk_cst (hC : Cst B b) {a : Nat} (h1 : 1 ≤ a) (h : a + 3 ≤ B.length) : alk B (a - 1) a = min 258 (B.length - a) := by
  have hle := alk_le (B := B) (a - 1) a
  have := alk_all (B := B) (old := a - 1) (a := a) (m := min 258 (B.length - a)) (by omega) (by omega) (fun i hi => by rw [hC _ (by omega), hC _ (by omega)])
  omega
theorem findGo_keep {nx : List Int} {a : Nat} {m far : Int} (hm : ∀ o, (alk B o a : Int) ≤ m) : ∀ (t : Nat) (old : Int), findGo B nx a t old m far = (m, far)
  | 0, old => rfl
  | t + 1, old => by
    simp only [findGo]
    split
    · rfl
    · have := hm old.toNat
      rw [if_neg (by omega)]
      exact findGo_keep hm t _
theorem find_cst (hC : Cst B b) {f : Fd} {a : Nat} (h1 : 1 ≤ a) (h : a + 3 ≤ B.length) (hf : f.hd.getD (hs3 b b b).toNat 0 = (a : Int) - 1) : findP B f a = (((min 258 (B.length - a) : Nat) : Int), (1 : Int)) := by
  have hk := alk_cst hC h1 h
  rw [find_go (by omega), hs_cst hC h, hf]
  have e : (a : Int) - 1 = ((a - 1 : Nat) : Int) := by omega
  rw [e, findGo_yes (k := 0) (by omega) (by omega) (by omega) (by rw [hk]; omega), hk, show (a : Int) - ((a - 1 : Nat) : Int) = 1 by omega]
  exact findGo_keep (fun o => by have := alk_le (B := B) o a; omega) _ _
theorem bits_few (hB : Byt B) : ∀ (k a : Nat) (f : Fd), B.length - a = k → k < 3 → (toksB fixL fixD (tokGo B (B.length - a) f a)).length ≤ 9 * k
  | 0, a, f, h, _ => by rw [h]; simp [tokGo, toksB]
  | k + 1, a, f, h, h3 => by
    have hlt : a < B.length := by omega
    rw [tokGo_lit hlt (by rw [find_no (by omega)]; show (0 : Int) < 3; decide)]
    have hb := hB.get a
    have h1 := wbf_len (s := B.getD a 0) (by omega)
    have h2 := fxN_le (B.getD a 0)
    have ih := bits_few hB k (a + 1) (putsP B f a 1) (by omega) (by omega)
    have e : toksB fixL fixD (⟨B.getD a 0, 0, 0⟩ :: tokGo B (B.length - (a + 1)) (putsP B f a 1) (a + 1)) = wb fixL (B.getD a 0) ++ toksB fixL fixD (tokGo B (B.length - (a + 1)) (putsP B f a 1) (a + 1)) := by simp [toksB, tokB]
    rw [e, List.length_append]
    omega
theorem inv_puts (hC : Cst B b) {a n : Nat} {f : Fd} (hf : Fok B a f) (hn : 1 ≤ n) (h : a + n + 2 ≤ B.length) : (putsP B f a n).hd.getD (hs3 b b b).toNat 0 = ((a + n : Nat) : Int) - 1 := by
  obtain ⟨m, rfl⟩ : ∃ m, n = m + 1 := ⟨n - 1, by omega⟩
  have hok := hf.puts m
  show (putP B (putsP B f a m) (a + m)).hd.getD _ 0 = _
  rw [(putP_yes (by omega)).1, hs_cst hC (by omega), set_get, if_pos ⟨rfl, by rw [hok.hl]; have := hs3_in b b b; omega⟩]
  omega
theorem bits_cst (hC : Cst B b) (hB : Byt B) : ∀ (q a : Nat) (f : Fd), B.length - a ≤ q → 1 ≤ a → Fok B a f → (a + 2 ≤ B.length → f.hd.getD (hs3 b b b).toNat 0 = (a : Int) - 1) → (toksB fixL fixD (tokGo B (B.length - a) f a)).length ≤ 13 * ((B.length - a) / 258) + 27
  | 0, a, f, hq, _, _, _ => by rw [show B.length - a = 0 by omega]; simp [tokGo, toksB]
  | q + 1, a, f, hq, h1, hf, hi => by
    rcases Nat.lt_or_ge (B.length - a) 3 with h3 | h3
    · have := bits_few hB _ a f rfl h3; omega
    · have hfind := find_cst hC h1 (by omega) (hi (by omega))
      have hn1 : (findP B f a).1 = ((min 258 (B.length - a) : Nat) : Int) := by rw [hfind]
      rw [tokGo_cp (n := min 258 (B.length - a)) (by omega) (by rw [hn1]; omega) hn1, hfind]
      have hm3 : min 258 (B.length - a) = 258 ∧ 258 ≤ B.length - a ∨ min 258 (B.length - a) = B.length - a ∧ B.length - a < 258 := by omega
      have hm4 : 3 ≤ min 258 (B.length - a) ∧ min 258 (B.length - a) ≤ 258 := by omega
      generalize min 258 (B.length - a) = m at *
      have ih := bits_cst hC hB q (a + m) (putsP B f a m) (by omega) (by omega) (hf.puts m) (fun h => inv_puts hC hf (by omega) h)
      have e : toksB fixL fixD (⟨0, (m : Int), 1⟩ :: tokGo B (B.length - (a + m)) (putsP B f a m) (a + m)) = tokB fixL fixD ⟨0, m, 1⟩ ++ toksB fixL fixD (tokGo B (B.length - (a + m)) (putsP B f a m) (a + m)) := by simp [toksB]
      show (toksB fixL fixD (⟨0, (m : Int), 1⟩ :: tokGo B (B.length - (a + m)) (putsP B f a m) (a + m))).length ≤ _
      obtain ⟨hl1, hl2, _, _, _, _, hl7⟩ := ln_ok (n := (m : Int)) (by omega)
      have w1 := wbf_len (s := lnSm (m : Int)) (by omega)
      have w2 := fxN_le (lnSm (m : Int))
      have w3 := wbd_len (s := dsSm 1) (by decide)
      have hdm : dsMo 1 = 0 := by decide
      have ht : (tokB fixL fixD ⟨0, m, 1⟩).length = fxN (lnSm m) + lnMo m + 5 := by
        rw [tokB_cp (by show ¬ (m : Int) = 0; omega)]
        simp only [List.length_append, lowB_len, w1, w3, hdm]
        try omega
      rw [e, List.length_append, ht]
      clear e ht w1 w3 hdm hfind hn1 hi hf hC hB hq
      rcases hm3 with ⟨h4, h5⟩ | ⟨h4, h5⟩
      · have e1 : lnSm (m : Int) = 285 := by unfold lnSm; rw [if_pos (by omega)]
        have e2 : lnMo (m : Int) = 0 := by unfold lnMo; rw [if_pos (by omega)]
        have e3 : fxN 285 = 8 := fxN_8 (.inr (by decide))
        rw [e1, e2, e3]
        clear w2 hl1 hl2 hl7 e1 e2 e3
        omega
      · have hz : B.length - (a + m) = 0 := by omega
        rw [hz] at ih ⊢
        simp only [tokGo, toksB, List.flatMap_nil, List.length_nil]
        omega
theorem fx_cst (hC : Cst B b) (hB : Byt B) (hn : 3 ≤ B.length) : (fxS (toks B)).length ≤ (13 * (B.length / 258) + 53) / 8 := by
  have hf0 := Fok.start B
  have hh := hs_in B 0
  have hfind : findP B (fd0 B) 0 = (0, 0) := by
    rw [find_go (by omega)]
    have : (fd0 B).hd.getD (hs B 0).toNat 0 = -1 := rep_get (by omega)
    rw [this]
    exact findGo_stop (by omega) (.inl rfl)
  have ht : toks B = ⟨B.getD 0 0, 0, 0⟩ :: tokGo B (B.length - (0 + 1)) (putsP B (fd0 B) 0 1) (0 + 1) := (show toks B = tokGo B (B.length - 0) (fd0 B) 0 from rfl).trans (tokGo_lit (B := B) (f := fd0 B) (a := 0) (by omega) (by rw [hfind]; show (0 : Int) < 3; decide))
  have hb := hB.get 0
  have w1 := wbf_len (s := B.getD 0 0) (by omega)
  have w2 := fxN_le (B.getD 0 0)
  have w3 := wbf_len (s := 256) (by decide)
  have w4 : fxN 256 = 7 := by decide
  have hr := bits_cst hC hB (B.length - (0 + 1)) (0 + 1) (putsP B (fd0 B) 0 1) (Nat.le_refl _) (by omega) (hf0.puts 1) (fun h => inv_puts hC hf0 (Nat.le_refl _) (by omega))
  have e : (toksB fixL fixD (toks B)).length = fxN (B.getD 0 0) + (toksB fixL fixD (tokGo B (B.length - (0 + 1)) (putsP B (fd0 B) 0 1) (0 + 1))).length := by
    rw [ht, ← w1, ← List.length_append]
    simp only [toksB, tokB, List.flatMap_cons, if_pos]
  have hdiv : (B.length - (0 + 1)) / 258 ≤ B.length / 258 := Nat.div_le_div_right (by omega)
  unfold fxS fxB
  rw [byB_len]
  simp only [List.length_append, lowB_len, e, w3, w4]
  omega
theorem sh_cst (hC : Cst B b) (hB : Byt B) (hn : 1000 ≤ B.length) : (shF B).length ≤ B.length / 10 + 64 := by
  have h1 := (shF_le B).2
  have h2 := fx_cst hC hB (by omega)
  omega
end
theorem cst_rep (n : Nat) (b : Int) : Cst (List.replicate n b) b := fun i h => rep_get (by rwa [List.length_replicate] at h)
theorem byt_rep (n : Nat) {b : Int} (h : 0 ≤ b ∧ b < 256) : Byt (List.replicate n b) := fun x hx => by rw [List.eq_of_mem_replicate hx]; exact h
end Go.DefP

/-
  What the laws of deflate meet.
-/
namespace Go.DefP
set_option linter.unusedVariables false
set_option linter.unusedSimpArgs false
open Go.BitP Go.HuffP Go.InfP
def nxR (x : Int) : Int := IntKind.u32.wrap (IntKind.u32.wrap (x * 1664525) + 1013904223)
def nzV (x : Int) : Int := IntKind.u8.wrap (x.fdiv (2 ^ (min (24 : Int).toNat IntKind.u32.bits)))
/-- All that a law wants of a stream. -/
structure Gd (B : List Int) : Prop where
  zb : (shF B).length ≤ 30000000
  byt : Byt (shF B)
  res : Res (shF B) (B.length : Int) (B, ((shF B).length : Int), 0)
  most : ((shF B).length : Int) ≤ (B.length : Int) + 5 * (((B.length : Int) + 65534) / 65535) + 5
theorem gd {B : List Int} (hB : Byt B) (hl : B.length ≤ 4194304) : Gd B := by
  have h := sh_res (t := []) hl hB (fun x hx => by cases hx)
  rw [List.append_nil] at h
  exact ⟨shF_bd hB hl, shF_byt hl hB, h, shF_most hl⟩
theorem zeros_264 {Z : List Int} (h : Z = List.replicate 2000 0) : (shF Z).length ≤ 264 := by
  subst h
  have := sh_cst (cst_rep 2000 0) (byt_rep 2000 (by decide)) (by rw [List.length_replicate]; decide)
  rw [List.length_replicate] at this
  omega
end Go.DefP
namespace Go.DefP
open Go.BitP
theorem Byt.app {a b : List Int} (h : Byt a) (k : Byt b) : Byt (a ++ b) := fun x hx => by
  rcases List.mem_append.1 hx with hx | hx
  · exact h x hx
  · exact k x hx
end Go.DefP
namespace Go.DefP
open Go.BitP Go.InfP
theorem or4 (a b : Bool) (p : Prop) : a = false ∨ (a = true ∧ b = false) ∨ (a = true ∧ b = true ∧ p) ∨ (a = true ∧ b = true ∧ ¬ p) := by
  cases a
  · exact .inl rfl
  · cases b
    · exact .inr (.inl ⟨rfl, rfl⟩)
    · rcases Classical.em p with h | h
      · exact .inr (.inr (.inl ⟨rfl, rfl, h⟩))
      · exact .inr (.inr (.inr ⟨rfl, rfl, h⟩))
end Go.DefP
namespace Go.DefP
/-- How a machine's step falls out: nothing to do, more to come, the end. -/
theorem step5 (s : Option Nat) (n : Int) (len lf : Nat) (h : match s with | none => lf = 0 | some t => lf = len - t ∧ t ≤ len) :
    (s = none ∧ lf = 0 ∧ n < 1) ∨ (s = none ∧ lf = 0 ∧ 1 ≤ n) ∨ (∃ t, s = some t ∧ t ≤ len ∧ lf = len - t ∧ n < 1 ∧ 0 < lf) ∨ (∃ t, s = some t ∧ t ≤ len ∧ lf = len - t ∧ n < 1 ∧ lf = 0) ∨ (∃ t, s = some t ∧ t ≤ len ∧ lf = len - t ∧ 1 ≤ n ∧ (t : Int) + n < len) ∨ (∃ t, s = some t ∧ t ≤ len ∧ lf = len - t ∧ 1 ≤ n ∧ (len : Int) ≤ t + n) := by
  cases s with
  | none =>
    have h : lf = 0 := h
    rcases Int.lt_or_le n 1 with h1 | h1
    · exact .inl ⟨rfl, h, h1⟩
    · exact .inr (.inl ⟨rfl, h, h1⟩)
  | some t =>
    obtain ⟨h1, h2⟩ := h
    rcases Int.lt_or_le n 1 with h3 | h3
    · rcases Nat.eq_zero_or_pos lf with h4 | h4
      · exact .inr (.inr (.inr (.inl ⟨t, rfl, h2, h1, h3, h4⟩)))
      · exact .inr (.inr (.inl ⟨t, rfl, h2, h1, h3, h4⟩))
    · rcases Int.lt_or_le ((t : Int) + n) len with h4 | h4
      · exact .inr (.inr (.inr (.inr (.inl ⟨t, rfl, h2, h1, h3, h4⟩))))
      · exact .inr (.inr (.inr (.inr (.inr ⟨t, rfl, h2, h1, h3, h4⟩))))
theorem run4 (s : Option Nat) (k len : Nat) (hk : k ≤ 10000) (h : ∀ t, s = some t → k ≤ t ∧ t ≤ len) (hl : len ≤ 9000) : (s = none ∧ k < 10000) ∨ (∃ t, s = some t ∧ k ≤ t ∧ t ≤ len ∧ k < 10000 ∧ (t : Int) + (1 + (k : Int) % 50) < len) ∨ (∃ t, s = some t ∧ k ≤ t ∧ t ≤ len ∧ k < 10000 ∧ (len : Int) ≤ t + (1 + (k : Int) % 50)) ∨ (s = none ∧ k = 10000) := by
  cases s with
  | none =>
    rcases Nat.lt_or_ge k 10000 with h1 | h1
    · exact .inl ⟨rfl, h1⟩
    · exact .inr (.inr (.inr ⟨rfl, by omega⟩))
  | some t =>
    obtain ⟨h1, h2⟩ := h t rfl
    rcases Int.lt_or_le ((t : Int) + (1 + (k : Int) % 50)) len with h4 | h4
    · exact .inr (.inl ⟨t, rfl, h1, h2, by omega, h4⟩)
    · exact .inr (.inr (.inl ⟨t, rfl, h1, h2, by omega, h4⟩))
end Go.DefP

/- Walks of functions that the law reaches, and what they lean on; no conditions. -/
import Derived.Test.YtmbljkghkcgejaaGreatM33
set_option linter.unusedVariables false
set_option linter.unusedSimpArgs false
set_option maxRecDepth 100000
namespace Go.DefP
open Go.BitP Go.HuffP Go.InfP
theorem ordr_nodup : ∀ k : Nat, k < 19 → ∀ i : Nat, i < 19 → ((i : Int) ∈ ordr.take (k + 1) ↔ ((i : Int) ∈ ordr.take k ∨ i = (ordr.getD k 0).toNat)) := by decide +kernel
theorem ordr_all : ∀ i : Nat, i < 19 → (i : Int) ∈ ordr.take 19 := by decide +kernel
theorem ordr_toNat : ∀ k : Nat, k < 19 → (ordr.getD k 0).toNat < 19 := by decide +kernel
theorem frs_get {o f : List Int} {a : Nat} (h : ∀ k, k < 19 → numL o (a + 3 * k) 3 = f.getD (ordr.getD k 0).toNat 0) : ∀ k : Nat, k ≤ 19 → ∀ i : Nat, i < 19 → (i : Int) ∈ ordr.take k → (frs o a k).getD i 0 = f.getD i 0
 | 0, _, i, _, hm => by simp at hm
 | k + 1, hk, i, hi, hm => by
  have hl := frs_len o a k
  have ho := ordr_toNat k (by omega)
  simp only [frs]
  rw [h k (by omega)]
  by_cases e : i = (ordr.getD k 0).toNat
  ·rw [← e, List.getD_eq_getElem?_getD, List.getElem?_set_self (by omega)]; rfl
  ·rw [List.getD_eq_getElem?_getD, List.getElem?_set_ne (Ne.symm e), ← List.getD_eq_getElem?_getD]
   refine frs_get h k (by omega) i hi ?_
   rcases (ordr_nodup k (by omega) i hi).1 hm with h1 | h1
   ·exact h1
   ·exact absurd h1 e
theorem frs_all {o f : List Int} {a : Nat} (hf : f.length = 19) (h : ∀ k, k < 19 → numL o (a + 3 * k) 3 = f.getD (ordr.getD k 0).toNat 0) : frs o a 19 = f := by
 refine List.ext_getElem (by rw [frs_len, hf]) fun i h1 h2 => ?_
 have hi : i < 19 := by omega
 have := frs_get h 19 (Nat.le_refl _) i hi (ordr_all i hi)
 simpa [List.getD_eq_getElem?_getD, h1, h2] using this
theorem ordB_split (f : List Int) {k : Nat} (h : k < 19) : ∃ r, ordB f 19 = ordB f k ++ lowB (f.getD (ordr.getD k 0).toNat 0) 3 ++ r := by
 have key : ∀ m, ∀ j, j + m = 19 → ∃ r, ordB f 19 = ordB f j ++ r := by
  intro m
  induction m with
  | zero => intro j hj; exact ⟨[], by rw [List.append_nil]; congr 1; omega⟩
  | succ m ih =>
   intro j hj
   obtain ⟨r, hr⟩ := ih (j + 1) (by omega)
   refine ⟨lowB (f.getD (ordr.getD j 0).toNat 0) 3 ++ r, ?_⟩
   rw [hr, ← ordB_next f (by omega), List.append_assoc]
 obtain ⟨r, hr⟩ := key (19 - (k + 1)) (k + 1) (by omega)
 exact ⟨r, by rw [hr, ← ordB_next f h]⟩
theorem bits_split (f l : List Int) {k : Nat} (h : k < l.length) : HuffP.bits f l = HuffP.bits f (l.take k) ++ wb f l[k] ++ HuffP.bits f (l.drop (k + 1)) := by
 rw [bitsF_next h]
 have : HuffP.bits f (l.take (k + 1) ++ l.drop (k + 1)) = HuffP.bits f (l.take (k + 1)) ++ HuffP.bits f (l.drop (k + 1)) := by unfold HuffP.bits; exact List.flatMap_append
 rw [← this, List.take_append_drop]
theorem lnGo_all {bs o f all u r : List Int} (h : Pq bs o) (hE : newE f = 0) (hall : ∀ x ∈ all, (0 ≤ x ∧ x ≤ 15) ∧ x < f.length ∧ lkB f x = true) (e : bs = u ++ HuffP.bits f all ++ r) : ∀ m k, k + m = all.length → lnGo o f all.length m (all.take k) (u ++ HuffP.bits f (all.take k)).length = .ok (all, (u ++ HuffP.bits f all).length) := by
 intro m
 induction m with
 | zero =>
  intro k hk
  have : k = all.length := by omega
  subst this
  rw [List.take_length]; exact lnGo_end (Nat.le_refl _)
 | succ m ih =>
  intro k hk
  have hk2 : k < all.length := by omega
  have hx := hall all[k] (List.getElem_mem hk2)
  have hs := sym_wb (u := u ++ HuffP.bits f (all.take k)) (r := HuffP.bits f (all.drop (k + 1)) ++ r) hE (s := all[k]) hx.1.1 hx.2.1 hx.2.2 h (by rw [e, bits_split f all hk2]; simp only [List.append_assoc])
  rw [List.append_assoc, bitsF_next hk2] at hs
  have hst := lnStep_3 (l := all.take k) hs (rep_lt (B := o) (l := all.take k) (a := (u ++ HuffP.bits f (all.take (k + 1))).length) (s := all[k]) (by omega))
  have e1 : all.take k ++ List.replicate (1 : Int).toNat all[k] = all.take (k + 1) := by
   rw [List.take_add_one, List.getElem?_eq_getElem hk2]; rfl
  rw [e1] at hst
  rw [lnGo_next (by rw [List.length_take]; omega) (by rw [List.length_take]; omega) hst (by rw [List.length_take]; omega)]
  exact ih (k + 1) (by omega)
theorem dy_res {B t : List Int} {mo : Int} (hl : B.length ≤ 4194304) (hmo : (B.length : Int) ≤ mo) (hB : Byt B) (ht : Byt t) : Res (dyS (toks B) ++ t) mo (B, ((dyS (toks B)).length : Int), 0) := by
 have hT := toks_at B
 have hok := hT.ok hB
 have htl : (toks B).length ≤ 4194304 := by have := toks_le hB; omega
 generalize hto : toks B = l at *
 have hq := byB_pq (dyB_01 l) ht
 generalize hoo : byB (dyB l) ++ t = o at hq
 have hgA := gdA htl
 have hgB := gdB htl
 have hgF := gdF l
 have hAl := dA_len htl
 have hBl := dB_len htl
 have hFl := dF_len l
 have hLl := dAll_len htl
 have eH : dyB l = [] ++ lowB 1 1 ++ (lowB 2 2 ++ lowB 29 5 ++ lowB 29 5 ++ lowB 15 4 ++ ordB (dF l) 19 ++ HuffP.bits (dF l) (dAll l) ++ (toksB (dA l) (dB l) l ++ wb (dA l) 256)) := by unfold dyB dH0; simp only [List.append_assoc, List.nil_append]
 have n1 := (pq_num (u := []) (x := 1) (n := 1) hq eH (by decide)).1
 have n2 := (pq_num (u := lowB 1 1) (x := 2) (n := 2) (r := lowB 29 5 ++ lowB 29 5 ++ lowB 15 4 ++ ordB (dF l) 19 ++ HuffP.bits (dF l) (dAll l) ++ (toksB (dA l) (dB l) l ++ wb (dA l) 256)) hq (by unfold dyB dH0; simp only [List.append_assoc]) (by decide)).1
 have n3 := (pq_num (u := lowB 1 1 ++ lowB 2 2) (x := 29) (n := 5) (r := lowB 29 5 ++ lowB 15 4 ++ ordB (dF l) 19 ++ HuffP.bits (dF l) (dAll l) ++ (toksB (dA l) (dB l) l ++ wb (dA l) 256)) hq (by unfold dyB dH0; simp only [List.append_assoc]) (by decide)).1
 have n4 := (pq_num (u := lowB 1 1 ++ lowB 2 2 ++ lowB 29 5) (x := 29) (n := 5) (r := lowB 15 4 ++ ordB (dF l) 19 ++ HuffP.bits (dF l) (dAll l) ++ (toksB (dA l) (dB l) l ++ wb (dA l) 256)) hq (by unfold dyB dH0; simp only [List.append_assoc]) (by decide)).1
 have n5 := pq_num (u := lowB 1 1 ++ lowB 2 2 ++ lowB 29 5 ++ lowB 29 5) (x := 15) (n := 4) (r := ordB (dF l) 19 ++ HuffP.bits (dF l) (dAll l) ++ (toksB (dA l) (dB l) l ++ wb (dA l) 256)) hq (by unfold dyB dH0; simp only [List.append_assoc]) (by decide)
 have eO : ∀ k, k < 19 → numL o (17 + 3 * k) 3 = (dF l).getD (ordr.getD k 0).toNat 0 ∧ 17 + 3 * k + 3 ≤ 8 * o.length := fun k hk => by
  obtain ⟨r, hr⟩ := ordB_split (dF l) hk
  have h7 := dF_7 (l := l) (ordr.getD k 0).toNat
  have := pq_num (u := dH0 ++ ordB (dF l) k) (x := (dF l).getD (ordr.getD k 0).toNat 0) (n := 3) (r := r ++ HuffP.bits (dF l) (dAll l) ++ (toksB (dA l) (dB l) l ++ wb (dA l) 256)) hq (by unfold dyB; rw [hr]; simp only [List.append_assoc]) ⟨h7.1, by have : (2 : Int) ^ 3 = 8 := (by decide); omega⟩
  rw [show (dH0 ++ ordB (dF l) k).length = 17 + 3 * k from by rw [List.length_append, ordB_len _ _ (by omega)]; simp only [dH0, List.length_append, lowB_len]] at this
  exact this
 simp only [List.length_append, lowB_len, List.length_nil] at n1 n2 n3 n4 n5
 have hHL : hL o 3 = 286 := by unfold hL; rw [n3]; rfl
 have hHD : hD o 3 = 30 := by unfold hD; rw [n4]; rfl
 have hHC : hC o 3 = 19 := by unfold hC; rw [n5.1]; rfl
 have hTC : toldC o 3 = dF l := by unfold toldC; rw [hHC]; exact frs_all hFl (fun k hk => (eO k hk).1)
 have hTA : toldA o 3 = 74 := by unfold toldA; rw [hHC]
 have hTN : toldN o 3 = 316 := by unfold toldN; rw [hHL, hHD]
 have hlast := (eO 18 (by omega)).2
 have hUl : (dH0 ++ ordB (dF l) 19).length = 74 := by rw [List.length_append, ordB_len _ _ (Nat.le_refl _)]; simp only [dH0, List.length_append, lowB_len]
 have hgo := lnGo_all (u := dH0 ++ ordB (dF l) 19) (r := toksB (dA l) (dB l) l ++ wb (dA l) 256) (all := dAll l) hq hgF.code (fun x hx => ⟨dAll_in htl hx, dF_has htl hx⟩) rfl 316 0 (by omega)
 rw [List.take_zero, bits_nil, List.append_nil, hUl, hLl] at hgo
 have hta : (dAll l).take 286 = dA l := by unfold dAll; rw [List.take_append_of_le_length (by omega), List.take_of_length_le (by omega)]
 have htd : (dAll l).drop 286 = dB l := by unfold dAll; rw [List.drop_append_of_le_length (by omega), List.drop_of_length_le (by omega), List.nil_append]
 have hend : (dAll l).getD 256 0 ≠ 0 := by
  have h1 : (dAll l).getD 256 0 = (dA l).getD 256 0 := by unfold dAll; exact getD_app _ _ _ (by omega)
  have h2 := cntA_mono l cA0 (i := 256) (by rw [cA0_len]; omega)
  rw [cA0_end] at h2
  have h3 := (hgA.pos 256 (by rw [fA_len]; omega) ((rarF_pos (by rw [cntA_len, cA0_len]; omega)).2 (by omega))).1
  omega
 have htold := told_7 (B := o) (a := 3) (by omega) (by rw [hHL, hHD]; omega) (by rw [hTA]; omega) (by rw [hTC]; exact hgF.code) (by rw [hTC, hTN, hTA]; exact hgo) (by rw [hHL, hta]; exact hgA.code) (by rw [hHL, htd]; exact hgB.code) hend
 rw [hHL, hta, htd] at htold
 have hb := beg_dy (B := o) (s := InfP.start) (by show 0 + 3 ≤ _; omega) n2 htold
 have h1 := (one_b (B := o) (mo := mo) (s := InfP.start) (by decide) rfl).trans hb
 have hz : Rq (dA l) (dB l) o mo _ (dH0 ++ ordB (dF l) 19 ++ HuffP.bits (dF l) (dAll l)).length [] := ⟨Goes.one rfl h1, rfl, rfl, by show ¬ (2 : Int) = -1; decide, by show ¬ (2 : Int) = 0; decide, rfl, rfl, by show decide (numL o 0 1 = 1) = true; rw [n1]; rfl, rfl, rfl⟩
 have := res_of hmo hB hT hgA.code hgB.code (dFits hok htl) hq hz rfl
 unfold dyS
 rw [hoo, byB_len]
 exact this
theorem sh_res {B t : List Int} (hl : B.length ≤ 4194304) (hB : Byt B) (ht : Byt t) : Res (shF B ++ t) B.length (B, ((shF B).length : Int), 0) := by
 rcases shF_or B with h | h | h <;> rw [h]
 ·exact (stF_res hl hB ht).1
 ·exact fx_res (Int.le_refl _) hB ht
 ·exact dy_res hl (Int.le_refl _) hB ht
theorem shF_byt {B : List Int} (hl : B.length ≤ 4194304) (hB : Byt B) : Byt (shF B) := by
 rcases shF_or B with h | h | h <;> rw [h]
 ·refine blks_byt (chk 64 B) (fun X hX => ⟨chk_ok 64 B (by omega) X hX, fun x hx => hB x ?_⟩)
  rw [← chk_flat 64 B]; exact List.mem_flatten.2 ⟨X, hX, hx⟩
 ·exact byB_byt (fxB_01 _)
 ·exact byB_byt (dyB_01 _)
end Go.DefP
namespace Go.DefP
open Go.BitP Go.HuffP Go.InfP
section
variable {B : List Int} {b : Int}
def Cst (B : List Int) (b : Int) : Prop := ∀ i, i < B.length → B.getD i 0 = b
end
end Go.DefP
namespace Go.DefP
open Go.BitP Go.HuffP Go.InfP
theorem u8_in (x : Int) : 0 ≤ IntKind.u8.wrap x ∧ IntKind.u8.wrap x < 256 := by
 have e : IntKind.u8.wrap x = x % 256 := rfl
 rw [e]; omega
def nxR (x : Int) : Int := IntKind.u32.wrap (IntKind.u32.wrap (x * 1664525) + 1013904223)
def nzV (x : Int) : Int := IntKind.u8.wrap (x.fdiv (2 ^ (min (24 : Int).toNat IntKind.u32.bits)))
structure Gd (B : List Int) : Prop where
 zb : (shF B).length ≤ 30000000
 byt : Byt (shF B)
 res : Res (shF B) (B.length : Int) (B, ((shF B).length : Int), 0)
 most : ((shF B).length : Int) ≤ (B.length : Int) + 5 * (((B.length : Int) + 65534) / 65535) + 5
theorem gd {B : List Int} (hB : Byt B) (hl : B.length ≤ 4194304) : Gd B := by
 have h := sh_res (t := []) hl hB (fun x hx => by cases hx)
 rw [List.append_nil] at h
 exact ⟨shF_bd hB hl, shF_byt hl hB, h, shF_most hl⟩
theorem Byt.snoc {l : List Int} {y : Int} (h : Byt l) (hy : 0 ≤ y ∧ y < 256) : Byt (l ++ [y]) := fun x hx => by
 rcases List.mem_append.1 hx with hx | hx
 ·exact h x hx
 ·rw [List.mem_singleton.1 hx]; exact hy
end Go.DefP
namespace Go.DefP
open Go.BitP
theorem Byt.app {a b : List Int} (h : Byt a) (k : Byt b) : Byt (a ++ b) := fun x hx => by
 rcases List.mem_append.1 hx with hx | hx
 ·exact h x hx
 ·exact k x hx
end Go.DefP
namespace Go.DefP
open Go.BitP Go.InfP
end Go.DefP
namespace Go.DefP
end Go.DefP
namespace Go.ZlP
open Go.BitP Go.InfP
theorem nat_byte {x : Int} (h : 0 ≤ x ∧ x < 256) : ∃ k : Fin 256, x = ((k.val : Nat) : Int) := ⟨⟨x.toNat, by omega⟩, by simp only; omega⟩
theorem and15_all : ∀ k : Fin 256, IntKind.i64.wrap ((BitVec.ofInt IntKind.i64.bits ((k.val : Nat) : Int) &&& BitVec.ofInt IntKind.i64.bits 15).toNat : Int) = ((k.val : Nat) : Int) % 16 := by decide +kernel
theorem and32_all : ∀ k : Fin 256, IntKind.i64.wrap ((BitVec.ofInt IntKind.i64.bits ((k.val : Nat) : Int) &&& BitVec.ofInt IntKind.i64.bits 32).toNat : Int) = 32 * (((k.val : Nat) : Int) / 32 % 2) := by decide +kernel
theorem and15 {x : Int} (h : 0 ≤ x ∧ x < 256) : IntKind.i64.wrap ((BitVec.ofInt IntKind.i64.bits x &&& BitVec.ofInt IntKind.i64.bits 15).toNat : Int) = x % 16 := by obtain ⟨k, rfl⟩ := nat_byte h; exact and15_all k
theorem and32 {x : Int} (h : 0 ≤ x ∧ x < 256) : IntKind.i64.wrap ((BitVec.ofInt IntKind.i64.bits x &&& BitVec.ofInt IntKind.i64.bits 32).toNat : Int) = 32 * (x / 32 % 2) := by obtain ⟨k, rfl⟩ := nat_byte h; exact and32_all k
theorem sh4 {x : Int} (h : 0 ≤ x) : x.fdiv (2 ^ (min (4 : Int).toNat IntKind.i64.bits)) = x / 16 := by rw [Int.fdiv_eq_ediv_of_nonneg _ (by decide)]; rfl
theorem or_add {a b n : Nat} (hb : b < 2 ^ n) : (a * 2 ^ n) ||| b = a * 2 ^ n + b := by
 have := Nat.shiftLeft_add_eq_or_of_lt hb a
 rw [Nat.shiftLeft_eq] at this
 exact this.symm
theorem wrap32 {n : Int} (h1 : 0 ≤ n) (h2 : n < 4294967296) : IntKind.u32.wrap n = n := by
 have e : IntKind.u32.wrap n = n % 4294967296 := rfl
 rw [e]; omega
theorem wrap64 {n : Int} (h1 : 0 ≤ n) (h2 : n < 4294967296) : IntKind.i64.wrap n = n := Go.Sl.wrapI (by omega) (by omega)
theorem or32 {x y u : Int} {n : Nat} (hx : x = u * 2 ^ n) (hu : 0 ≤ u) (hy : 0 ≤ y ∧ y < 2 ^ n) (h : x + y < 4294967296) : IntKind.u32.wrap ((BitVec.ofInt IntKind.u32.bits x ||| BitVec.ofInt IntKind.u32.bits y).toNat : Int) = x + y := by
 obtain ⟨a, rfl⟩ : ∃ a : Nat, u = (a : Int) := ⟨u.toNat, by omega⟩
 obtain ⟨b, rfl⟩ : ∃ b : Nat, y = (b : Int) := ⟨y.toNat, by omega⟩
 have e : IntKind.u32.bits = 32 := rfl
 have hb : b < 2 ^ n := by have := hy.2; exact_mod_cast this
 have hx2 : x = ((a * 2 ^ n : Nat) : Int) := by rw [hx]; push_cast; rfl
 subst hx2
 rw [e, BitVec.toNat_or, ofInt_nat, ofInt_nat, Nat.mod_eq_of_lt (by omega), Nat.mod_eq_of_lt (by omega), or_add hb, wrap32 (by omega) (by omega)]
 omega
theorem or64 {x y u : Int} {n : Nat} (hx : x = u * 2 ^ n) (hu : 0 ≤ u) (hy : 0 ≤ y ∧ y < 2 ^ n) (h : x + y < 4294967296) : IntKind.i64.wrap ((BitVec.ofInt IntKind.i64.bits x ||| BitVec.ofInt IntKind.i64.bits y).toNat : Int) = x + y := by
 obtain ⟨a, rfl⟩ : ∃ a : Nat, u = (a : Int) := ⟨u.toNat, by omega⟩
 obtain ⟨b, rfl⟩ : ∃ b : Nat, y = (b : Int) := ⟨y.toNat, by omega⟩
 have e : IntKind.i64.bits = 64 := rfl
 have hb : b < 2 ^ n := by have := hy.2; exact_mod_cast this
 have hx2 : x = ((a * 2 ^ n : Nat) : Int) := by rw [hx]; push_cast; rfl
 subst hx2
 rw [e, BitVec.toNat_or, ofInt_nat, ofInt_nat, Nat.mod_eq_of_lt (by omega), Nat.mod_eq_of_lt (by omega), or_add hb, wrap64 (by omega) (by omega)]
 omega
theorem shlI {x r : Int} {n : Nat} {d : Int} (hd : d = (n : Int)) (hn : n ≤ 32) (hr : r = x * 2 ^ n) (h0 : 0 ≤ r) (h1 : r < 4294967296) : IntKind.i64.wrap (x * 2 ^ (min d.toNat IntKind.i64.bits)) = r := by
 have e : min d.toNat IntKind.i64.bits = n := by
  have : IntKind.i64.bits = 64 := rfl
  omega
 rw [e, ← hr]; exact wrap64 h0 h1
theorem shlU {x r : Int} {n : Nat} {d : Int} (hd : d = (n : Int)) (hn : n ≤ 32) (hr : r = x * 2 ^ n) (h0 : 0 ≤ r) (h1 : r < 4294967296) : IntKind.u32.wrap (x * 2 ^ (min d.toNat IntKind.u32.bits)) = r := by
 have e : min d.toNat IntKind.u32.bits = n := by
  have : IntKind.u32.bits = 32 := rfl
  omega
 rw [e, ← hr]; exact wrap32 h0 h1
theorem shrU {x : Int} {n : Nat} {d : Int} (hd : d = (n : Int)) (hn : n ≤ 32) : x.fdiv (2 ^ (min d.toNat IntKind.u32.bits)) = x / 2 ^ n := by
 have e : min d.toNat IntKind.u32.bits = n := by
  have : IntKind.u32.bits = 32 := rfl
  omega
 rw [e, Int.fdiv_eq_ediv_of_nonneg _ (Int.le_of_lt (Int.pow_pos (by decide)))]
def ad1 (s : Int × Int) (c : Int) : Int × Int := ((s.1 + c) % 65521, (s.2 + (s.1 + c) % 65521) % 65521)
def adl (l : List Int) : Int × Int := l.foldl ad1 (1, 0)
theorem adl_nil : adl [] = (1, 0) := rfl
theorem adl_snoc (l : List Int) (c : Int) : adl (l ++ [c]) = ad1 (adl l) c := by simp [adl]
theorem adl_take {l : List Int} {i : Nat} (h : i < l.length) : adl (l.take (i + 1)) = ad1 (adl (l.take i)) (l.getD i 0) := by rw [InfP.take_next h, adl_snoc]
theorem ad1_in (s : Int × Int) (c : Int) : (0 ≤ (ad1 s c).1 ∧ (ad1 s c).1 < 65521) ∧ 0 ≤ (ad1 s c).2 ∧ (ad1 s c).2 < 65521 := by unfold ad1; simp only; omega
theorem fold_in (l : List Int) : ∀ s : Int × Int, ((0 ≤ s.1 ∧ s.1 < 65521) ∧ 0 ≤ s.2 ∧ s.2 < 65521) → (0 ≤ (l.foldl ad1 s).1 ∧ (l.foldl ad1 s).1 < 65521) ∧ 0 ≤ (l.foldl ad1 s).2 ∧ (l.foldl ad1 s).2 < 65521 := by
 induction l with
 | nil => exact fun s h => h
 | cons a l ih => exact fun s h => ih _ (ad1_in s a)
theorem adl_in (l : List Int) : (0 ≤ (adl l).1 ∧ (adl l).1 < 65521) ∧ 0 ≤ (adl l).2 ∧ (adl l).2 < 65521 := fold_in l _ (by decide)
def adN (l : List Int) : Int := (adl l).2 * 65536 + (adl l).1
theorem adN_in (l : List Int) : 0 ≤ adN l ∧ adN l < 4294967296 := by have := adl_in l; unfold adN; omega
def adB (l : List Int) : List Int := [adN l / 16777216, adN l / 65536 % 256, adN l / 256 % 256, adN l % 256]
theorem adB_len (l : List Int) : (adB l).length = 4 := rfl
theorem adB_byt (l : List Int) : Byt (adB l) := fun x hx => by
 have := adN_in l
 simp only [adB, List.mem_cons, List.not_mem_nil, or_false] at hx
 rcases hx with rfl | rfl | rfl | rfl <;> omega
def num4 (l : List Int) : Int := l.getD 0 0 * 16777216 + l.getD 1 0 * 65536 + l.getD 2 0 * 256 + l.getD 3 0
def Hd (a b : Int) : Prop := a % 16 = 8 ∧ a / 16 ≤ 7 ∧ (a * 256 + b) % 31 = 0 ∧ 32 * (b / 32 % 2) = 0
instance (a b : Int) : Decidable (Hd a b) := by unfold Hd; infer_instance
theorem hd_or (a b : Int) : ¬ a % 16 = 8 ∨ (a % 16 = 8 ∧ ¬ a / 16 ≤ 7) ∨ (a % 16 = 8 ∧ a / 16 ≤ 7 ∧ ¬ (a * 256 + b) % 31 = 0) ∨ (a % 16 = 8 ∧ a / 16 ≤ 7 ∧ (a * 256 + b) % 31 = 0 ∧ ¬ 32 * (b / 32 % 2) = 0) ∨ (a % 16 = 8 ∧ a / 16 ≤ 7 ∧ (a * 256 + b) % 31 = 0 ∧ 32 * (b / 32 % 2) = 0) := by omega
def fin (D : List Int) (r : List Int × Int × Int) : List Int × Int :=
 if ¬ r.2.2 = 0 then ([], r.2.2) else if D.length - r.2.1.toNat < 4 then ([], 2) else if 4 < D.length - r.2.1.toNat then ([], 4) else if D.drop r.2.1.toNat = adB r.1 then (r.1, 0) else ([], 5)
def Opn (B : List Int) (mo : Int) (q : List Int × Int) : Prop :=
 (B.length < 6 ∧ q = ([], 2)) ∨ (6 ≤ B.length ∧ ¬ Hd (B.getD 0 0) (B.getD 1 0) ∧ q = ([], 4)) ∨ (6 ≤ B.length ∧ Hd (B.getD 0 0) (B.getD 1 0) ∧ ∃ r, Res (B.drop 2) mo r ∧ q = fin (B.drop 2) r)
theorem byt_drop {B : List Int} (h : Byt B) (n : Nat) : Byt (B.drop n) := fun x hx => h x (List.mem_of_mem_drop hx)
theorem res_in {B : List Int} {mo : Int} (hB : Byt B) {q : List Int × Int × Int} (h : Res B mo q) : Byt q.1 ∧ 0 ≤ q.2.1 ∧ q.2.1 ≤ B.length ∧ (q.1 = [] ∨ (q.1.length : Int) ≤ mo) := by
 rcases h with ⟨_, rfl⟩ | ⟨h0, o, ho, rfl⟩
 ·exact ⟨fun x hx => by (cases hx), by decide, by simp, .inl rfl⟩
 ·cases o with
  | error e => exact ⟨fun x hx => by (cases hx), by simp [Ou], by simp [Ou], .inl rfl⟩
  | ok p =>
   obtain ⟨x, n⟩ := p
   obtain ⟨h1, h2, h3⟩ := runs_room hB ho (start_ok (by omega)) x n rfl
   exact ⟨h3, by simp [Ou], by simp only [Ou]; omega, .inr h1⟩
end Go.ZlP
namespace Go.ZlP
open Go.BitP Go.InfP Go.DefP
theorem Opn.ways {B : List Int} {mo : Int} {q : List Int × Int} (hB : Byt B) (hm : mo < 500000000) (h : Opn B mo q) :
  (B.length < 6 ∧ q = ([], 2)) ∨ (6 ≤ B.length ∧ ¬ Hd (B.getD 0 0) (B.getD 1 0) ∧ q = ([], 4)) ∨
  (∃ e, 6 ≤ B.length ∧ Hd (B.getD 0 0) (B.getD 1 0) ∧ Res (B.drop 2) mo ([], ((0 : Nat) : Int), e) ∧ ¬ e = 0 ∧ q = ([], e)) ∨
  (∃ (x : List Int) (n : Nat), 6 ≤ B.length ∧ Hd (B.getD 0 0) (B.getD 1 0) ∧ Res (B.drop 2) mo (x, (n : Int), 0) ∧ Byt x ∧ x.length < 500000000 ∧ n ≤ B.length - 2 ∧ B.length - (2 + n) < 4 ∧ q = ([], 2)) ∨
  (∃ (x : List Int) (n : Nat), 6 ≤ B.length ∧ Hd (B.getD 0 0) (B.getD 1 0) ∧ Res (B.drop 2) mo (x, (n : Int), 0) ∧ Byt x ∧ x.length < 500000000 ∧ n ≤ B.length - 2 ∧ 4 < B.length - (2 + n) ∧ q = ([], 4)) ∨
  (∃ (x : List Int) (n : Nat), 6 ≤ B.length ∧ Hd (B.getD 0 0) (B.getD 1 0) ∧ Res (B.drop 2) mo (x, (n : Int), 0) ∧ Byt x ∧ x.length < 500000000 ∧ n ≤ B.length - 2 ∧ B.length - (2 + n) = 4 ∧ ¬ B.drop (2 + n) = adB x ∧ q = ([], 5)) ∨
  (∃ (x : List Int) (n : Nat), 6 ≤ B.length ∧ Hd (B.getD 0 0) (B.getD 1 0) ∧ Res (B.drop 2) mo (x, (n : Int), 0) ∧ Byt x ∧ x.length < 500000000 ∧ n ≤ B.length - 2 ∧ B.length - (2 + n) = 4 ∧ B.drop (2 + n) = adB x ∧ q = (x, 0)) := by
 rcases h with h | h | ⟨h6, hh, ⟨x, n, e⟩, hr, hq⟩
 ·exact .inl h
 ·exact .inr (.inl h)
 ·obtain ⟨i1, i2, i3, i4⟩ := res_in (byt_drop hB 2) hr
  simp only [List.length_drop] at i1 i2 i3 i4
  have hxl : x.length < 500000000 := by
   rcases i4 with h | h
   ·rw [h]; decide
   ·omega
  have hez : ¬ e = 0 → x = [] ∧ n = 0 := fun he => by
   rcases hr with ⟨_, h⟩ | ⟨_, o, _, h⟩
   ·cases h; exact ⟨rfl, rfl⟩
   ·cases o
    ·cases h; exact ⟨rfl, rfl⟩
    ·cases h; exact absurd rfl he
  obtain ⟨k, rfl⟩ : ∃ k : Nat, n = (k : Int) := ⟨n.toNat, by omega⟩
  unfold fin at hq
  simp only [List.length_drop, List.drop_drop, Int.toNat_natCast] at hq
  split at hq
  ·rename_i h1
   obtain ⟨rfl, h2⟩ := hez h1
   obtain rfl : k = 0 := by omega
   exact .inr (.inr (.inl ⟨_, h6, hh, hr, h1, hq⟩))
  ·rename_i h1
   obtain rfl : e = 0 := by omega
   split at hq
   ·rename_i h2; exact .inr (.inr (.inr (.inl ⟨_, _, h6, hh, hr, i1, hxl, by omega, by omega, hq⟩)))
   ·split at hq
    ·rename_i h2 h3; exact .inr (.inr (.inr (.inr (.inl ⟨_, _, h6, hh, hr, i1, hxl, by omega, by omega, hq⟩))))
    ·split at hq
     ·rename_i h2 h3 h4; exact .inr (.inr (.inr (.inr (.inr (.inr ⟨_, _, h6, hh, hr, i1, hxl, by omega, by omega, h4, hq⟩)))))
     ·rename_i h2 h3 h4; exact .inr (.inr (.inr (.inr (.inr (.inl ⟨_, _, h6, hh, hr, i1, hxl, by omega, by omega, h4, hq⟩)))))
theorem Opn.way3 {B : List Int} {mo : Int} {q : List Int × Int} (hB : Byt B) (hm : mo < 500000000) (h : Opn B mo q) :
  (B.length < 6 ∧ q = ([], 2)) ∨ (6 ≤ B.length ∧ ¬ Hd (B.getD 0 0) (B.getD 1 0) ∧ q = ([], 4)) ∨
  (∃ (x : List Int) (n : Nat) (e : Int), 6 ≤ B.length ∧ Hd (B.getD 0 0) (B.getD 1 0) ∧ Res (B.drop 2) mo (x, (n : Int), e) ∧ Byt x ∧ x.length < 500000000 ∧ n ≤ B.length - 2 ∧
   ((¬ e = 0 ∧ q = ([], e)) ∨ (e = 0 ∧ B.length - (2 + n) < 4 ∧ q = ([], 2)) ∨ (e = 0 ∧ 4 < B.length - (2 + n) ∧ q = ([], 4)) ∨ (e = 0 ∧ B.length - (2 + n) = 4 ∧ ¬ B.drop (2 + n) = adB x ∧ q = ([], 5)) ∨ (e = 0 ∧ B.length - (2 + n) = 4 ∧ B.drop (2 + n) = adB x ∧ q = (x, 0)))) := by
 rcases h.ways hB hm with h | h | ⟨e, a, b, c, d, r⟩ | ⟨x, n, a, b, c, d, f, g, r⟩ | ⟨x, n, a, b, c, d, f, g, r⟩ | ⟨x, n, a, b, c, d, f, g, r⟩ | ⟨x, n, a, b, c, d, f, g, r⟩
 ·exact .inl h
 ·exact .inr (.inl h)
 ·exact .inr (.inr ⟨[], 0, e, a, b, c, fun x hx => (by cases hx), by decide, by omega, .inl ⟨d, r⟩⟩)
 ·exact .inr (.inr ⟨x, n, 0, a, b, c, d, f, g, .inr (.inl ⟨rfl, r⟩)⟩)
 ·exact .inr (.inr ⟨x, n, 0, a, b, c, d, f, g, .inr (.inr (.inl ⟨rfl, r⟩))⟩)
 ·exact .inr (.inr ⟨x, n, 0, a, b, c, d, f, g, .inr (.inr (.inr (.inl ⟨rfl, r⟩)))⟩)
 ·exact .inr (.inr ⟨x, n, 0, a, b, c, d, f, g, .inr (.inr (.inr (.inr ⟨rfl, r⟩)))⟩)
theorem byt_all {l : List Int} (h : Byt l) : ∀ x ∈ l, 0 ≤ x ∧ x < 256 := h
def zS (B : List Int) : List Int := [120, 1] ++ shF B ++ adB B
theorem zS_len (B : List Int) : (zS B).length = 6 + (shF B).length := by simp [zS, adB_len]; omega
theorem zS_cons (B : List Int) : zS B = 120 :: 1 :: (shF B ++ adB B) := by simp [zS]
theorem byt_cons {a : Int} {l : List Int} (h : 0 ≤ a ∧ a < 256) (k : Byt l) : Byt (a :: l) := fun x hx => by
 rcases List.mem_cons.1 hx with rfl | hx
 ·exact h
 ·exact k x hx
theorem zS_byt {B : List Int} (hB : Byt B) (hl : B.length ≤ 4194304) : Byt (zS B) := by
 rw [zS_cons]
 exact byt_cons (by decide) (byt_cons (by decide) (Byt.app (shF_byt hl hB) (adB_byt B)))
theorem opn_any {B t : List Int} {a b : Int} (hB : Byt B) (hl : B.length ≤ 4194304) (ht : Byt t) (hh : Hd a b) (h4 : 4 ≤ (shF B).length + t.length) : Opn (a :: b :: (shF B ++ t)) (B.length : Int) (if t.length < 4 then ([], 2) else if 4 < t.length then ([], 4) else if t = adB B then (B, 0) else ([], 5)) := by
 refine .inr (.inr ⟨by simp; omega, hh, (B, ((shF B).length : Int), 0), sh_res hl hB ht, ?_⟩)
 have e1 : (shF B ++ t).length - (shF B).length = t.length := by rw [List.length_append]; omega
 have e2 : (shF B ++ t).drop (shF B).length = t := List.drop_left
 simp only [fin, List.drop_succ_cons, List.drop_zero, Int.toNat_natCast, not_true_eq_false, if_false, e1, e2]
theorem hd_zS : Hd 120 1 := by unfold Hd; decide
theorem opn_zS {B : List Int} (hB : Byt B) (hl : B.length ≤ 4194304) : Opn (zS B) (B.length : Int) (B, 0) := by
 have h := opn_any hB hl (adB_byt B) hd_zS (by rw [adB_len]; omega)
 rw [adB_len, if_neg (by decide), if_neg (by decide), if_pos rfl, ← zS_cons] at h
 exact h
theorem opn_head {B : List Int} {a b : Int} (hB : Byt B) (hl : B.length ≤ 4194304) (q : List Int × Int) (hq : (Hd a b ∧ q = (B, 0)) ∨ (¬ Hd a b ∧ q = ([], 4))) : Opn (a :: b :: (shF B ++ adB B)) (B.length : Int) q := by
 rcases hq with ⟨hh, rfl⟩ | ⟨hh, rfl⟩
 ·have h := opn_any hB hl (adB_byt B) hh (by rw [adB_len]; omega)
  rw [adB_len, if_neg (by decide), if_neg (by decide), if_pos rfl] at h
  exact h
 ·refine .inr (.inl ⟨by simp [adB_len], hh, rfl⟩)
theorem opn_sum {B t : List Int} (hB : Byt B) (hl : B.length ≤ 4194304) (ht : Byt t) (h4 : t.length = 4) (hne : t ≠ adB B) : Opn (120 :: 1 :: (shF B ++ t)) (B.length : Int) ([], 5) := by
 have h := opn_any hB hl ht hd_zS (by omega)
 rw [h4, if_neg (by decide), if_neg (by decide), if_neg hne] at h
 exact h
theorem opn_more {B : List Int} {c : Int} (hB : Byt B) (hl : B.length ≤ 4194304) (hc : 0 ≤ c ∧ c < 256) : Opn (zS B ++ [c]) (B.length : Int) ([], 4) := by
 have h := opn_any (t := adB B ++ [c]) hB hl (Byt.snoc (adB_byt B) hc) hd_zS (by simp [adB_len])
 rw [List.length_append, adB_len, List.length_singleton, if_neg (by decide), if_pos (by decide)] at h
 rw [zS_cons]
 simpa using h
theorem opn_cut {B : List Int} {k : Nat} (hB : Byt B) (hl : B.length ≤ 4194304) (hk : 1 ≤ k ∧ k ≤ 4) : Opn ((zS B).take ((zS B).length - k)) (B.length : Int) ([], 2) := by
 rw [zS_len, zS_cons]
 have e : (120 :: 1 :: (shF B ++ adB B)).take (6 + (shF B).length - k) = 120 :: 1 :: (shF B ++ (adB B).take (4 - k)) := by
  rw [show 6 + (shF B).length - k = ((shF B).length + (4 - k)) + 1 + 1 by omega, List.take_succ_cons, List.take_succ_cons, List.take_append, List.take_of_length_le (by omega), Nat.add_sub_cancel_left]
 rw [e]
 have hl4 : ((adB B).take (4 - k)).length = 4 - k := by rw [List.length_take, adB_len]; omega
 rcases Nat.lt_or_ge ((shF B).length + (4 - k)) 4 with h | h
 ·exact .inl ⟨by simp [hl4]; omega, rfl⟩
 ·have h := opn_any (t := (adB B).take (4 - k)) hB hl (fun x hx => adB_byt B x (List.mem_of_mem_take hx)) hd_zS (by rw [hl4]; exact h)
  rw [hl4, if_pos (by omega)] at h
  exact h
theorem awake1 : Opn [120, 1, 3, 0, 0, 0, 0, 1] 0 ([], 0) := by
 refine .inr (.inr ⟨by decide, hd_zS, ([], 2, 0), runB_res (f := 9) (by decide) (by kernel_rfl), ?_⟩)
 decide
end Go.ZlP
namespace Go.ZlP
open Go.BitP Go.InfP Go.DefP
theorem zS_hlen (B : List Int) (a b : Int) : (a :: b :: (shF B ++ adB B)).length = (zS B).length := by rw [zS_cons]; rfl
theorem zS_hbyt {B : List Int} {a b : Int} (hB : Byt B) (hl : B.length ≤ 4194304) (ha : 0 ≤ a ∧ a < 256) (hb : 0 ≤ b ∧ b < 256) : Byt (a :: b :: (shF B ++ adB B)) := byt_cons ha (byt_cons hb (Byt.app (shF_byt hl hB) (adB_byt B)))
def xr (a d : Int) : Int := IntKind.u8.wrap ((BitVec.ofInt IntKind.u8.bits a ^^^ BitVec.ofInt IntKind.u8.bits d).toNat : Int)
theorem xr_in (a d : Int) : 0 ≤ xr a d ∧ xr a d < 256 := u8_in _
theorem xr_ne {a d : Int} (ha : 0 ≤ a ∧ a < 256) (hd : 0 < d ∧ d < 256) : xr a d ≠ a := by
 obtain ⟨x, rfl⟩ : ∃ x : Nat, a = (x : Int) := ⟨a.toNat, by omega⟩
 obtain ⟨y, rfl⟩ : ∃ y : Nat, d = (y : Int) := ⟨d.toNat, by omega⟩
 have e : IntKind.u8.bits = 8 := rfl
 unfold xr
 rw [e, BitVec.toNat_xor, ofInt_nat, ofInt_nat, Nat.mod_eq_of_lt (by omega), Nat.mod_eq_of_lt (by omega), Go.Sl.wrap8 (by omega) (by have := Nat.xor_lt_two_pow (n := 8) (x := x) (y := y) (by omega) (by omega); omega)]
 intro h
 have h2 : x ^^^ y = x := by omega
 have h3 : x ^^^ (x ^^^ y) = x ^^^ x := by rw [h2]
 rw [← Nat.xor_assoc, Nat.xor_self, Nat.zero_xor] at h3
 omega
theorem bad_eq (B : List Int) {m : Nat} (hm : m < 4) (x : Int) : (zS B).set ((zS B).length - 1 - m) x = 120 :: 1 :: (shF B ++ (adB B).set (3 - m) x) := by
 have e : zS B = ([120, 1] ++ shF B) ++ adB B := by simp [zS]
 rw [zS_len]
 conv => lhs; rw [e]
 rw [List.set_append_right _ _ (by simp; omega)]
 have e2 : 6 + (shF B).length - 1 - m - ([120, 1] ++ shF B).length = 3 - m := by simp; omega
 rw [e2]
 simp
theorem bad_byt {B : List Int} (hB : Byt B) (hl : B.length ≤ 4194304) {k : Nat} {x : Int} (hx : 0 ≤ x ∧ x < 256) : Byt ((zS B).set k x) := fun y hy => by
 rcases List.mem_or_eq_of_mem_set hy with h | h
 ·exact zS_byt hB hl y h
 ·rw [h]; exact hx
theorem opn_bad {B : List Int} {m : Nat} {x : Int} (hB : Byt B) (hl : B.length ≤ 4194304) (hm : m < 4) (hx : 0 ≤ x ∧ x < 256) (hne : x ≠ (zS B).getD ((zS B).length - 1 - m) 0) : Opn ((zS B).set ((zS B).length - 1 - m) x) (B.length : Int) ([], 5) := by
 rw [bad_eq B hm]
 refine opn_sum hB hl (fun y hy => ?_) (by rw [List.length_set]; rfl) (fun h => hne ?_)
 ·rcases List.mem_or_eq_of_mem_set hy with h | h
  ·exact adB_byt B y h
  ·rw [h]; exact hx
 ·have e : (zS B).getD ((zS B).length - 1 - m) 0 = (adB B).getD (3 - m) 0 := by
   have e1 : zS B = ([120, 1] ++ shF B) ++ adB B := by simp [zS]
   have e2 : (zS B).length - 1 - m = ([120, 1] ++ shF B).length + (3 - m) := by rw [zS_len]; simp; omega
   rw [e2, e1]
   exact getD_app2 _ _ _
  rw [e, ← h]
  have hlt : 3 - m < ((adB B).set (3 - m) x).length := by rw [List.length_set]; show 3 - m < 4; omega
  rw [List.getD_eq_getElem?_getD, List.getElem?_eq_getElem hlt]
  simp
end Go.ZlP
namespace Go.ZlP
open Go.BitP Go.InfP Go.DefP
theorem ok3 (ok : Bool) (n : Nat) : ok = false ∨ (ok = true ∧ 9000 < n) ∨ (ok = true ∧ n ≤ 9000) := by
 cases ok
 ·exact .inl rfl
 ·rcases Nat.lt_or_ge 9000 n with h | h
  ·exact .inr (.inl ⟨rfl, h⟩)
  ·exact .inr (.inr ⟨rfl, h⟩)
theorem rem4 {x : Int} (h : 0 ≤ x ∧ x < 256) : ∃ m : Nat, x % 4 = (m : Int) ∧ m < 4 := ⟨(x % 4).toNat, by omega, by omega⟩
theorem more_byt {B : List Int} {x : Int} (hB : Byt B) (hl : B.length ≤ 4194304) (hx : 0 ≤ x ∧ x < 256) : Byt (([] ++ zS B) ++ [x]) := Byt.snoc (zS_byt hB hl) hx
theorem cut_byt {B : List Int} {k : Nat} (hB : Byt B) (hl : B.length ≤ 4194304) : Byt ((zS B).take k) := fun x hx => zS_byt hB hl x (List.mem_of_mem_take hx)
theorem opn_cutm {B : List Int} {m : Nat} (hB : Byt B) (hl : B.length ≤ 4194304) (hm : m < 4) : Opn ((zS B).take ((zS B).length - 1 - m)) (B.length : Int) ([], 2) := by
 rw [Nat.sub_sub]
 exact opn_cut hB hl (by omega)
theorem hd_136 : ¬ Hd 136 1 := by unfold Hd; decide
theorem zS_set1 (B : List Int) : ([] ++ zS B).set (0 : Int).toNat 136 = 136 :: 1 :: (shF B ++ adB B) := by rw [zS_cons]; rfl
end Go.ZlP
namespace Go.ZlP
open Go.BitP
theorem xr_ex {a d : Int} (ha : 0 ≤ a ∧ a < 256) (hd : 0 < d ∧ d < 256) : ∃ x, xr a d = x ∧ (0 ≤ x ∧ x < 256) ∧ x ≠ a := ⟨_, rfl, xr_in a d, xr_ne ha hd⟩
end Go.ZlP

/- Walks of functions that the law reaches, and what they lean on; no conditions. -/
import Derived.Test.YtmbljkghkcgejaaGreatM33
set_option linter.unusedVariables false
set_option linter.unusedSimpArgs false
set_option maxRecDepth 100000
namespace Go.ad
open Go.af Go.ab Go.aa
theorem AS : ∀ k : Nat, k < 19 → ∀ i : Nat, i < 19 → ((i : Int) ∈ dv.take (k + 1) ↔ ((i : Int) ∈ dv.take k ∨ i = (dv.getD k 0).toNat)) := by decide +kernel
theorem Fe : ∀ i : Nat, i < 19 → (i : Int) ∈ dv.take 19 := by decide +kernel
theorem Ab : ∀ k : Nat, k < 19 → (dv.getD k 0).toNat < 19 := by decide +kernel
theorem zu {o f : List Int} {a : Nat} (h : ∀ k, k < 19 → az o (a + 3 * k) 3 = f.getD (dv.getD k 0).toNat 0) : ∀ k : Nat, k ≤ 19 → ∀ i : Nat, i < 19 → (i : Int) ∈ dv.take k → (fP o a k).getD i 0 = f.getD i 0
 | 0, _, i, _, hm => by simp at hm
 | k + 1, hk, i, hi, hm => by
  have hl := rq o a k
  have ho := Ab k (by omega)
  simp only [fP]
  rw [h k (by omega)]
  by_cases e : i = (dv.getD k 0).toNat
  ·rw [← e, List.getD_eq_getElem?_getD, List.getElem?_set_self (by omega)]; rfl
  ·rw [List.getD_eq_getElem?_getD, List.getElem?_set_ne (Ne.symm e), ← List.getD_eq_getElem?_getD]
   refine zu h k (by omega) i hi ?_
   rcases (AS k (by omega) i hi).1 hm with h1 | h1
   ·exact h1
   ·exact absurd h1 e
theorem GV {o f : List Int} {a : Nat} (hf : f.length = 19) (h : ∀ k, k < 19 → az o (a + 3 * k) 3 = f.getD (dv.getD k 0).toNat 0) : fP o a 19 = f := by
 refine List.ext_getElem (by rw [rq, hf]) fun i h1 h2 => ?_
 have hi : i < 19 := by omega
 have := zu h 19 (Nat.le_refl _) i hi (Fe i hi)
 simpa [List.getD_eq_getElem?_getD, h1, h2] using this
theorem Bb (f : List Int) {k : Nat} (h : k < 19) : ∃ r, dX f 19 = dX f k ++ aQ (f.getD (dv.getD k 0).toNat 0) 3 ++ r := by
 have key : ∀ m, ∀ j, j + m = 19 → ∃ r, dX f 19 = dX f j ++ r := by
  intro m
  induction m with
  | zero => intro j hj; exact ⟨[], by rw [List.append_nil]; congr 1; omega⟩
  | succ m ih =>
   intro j hj
   obtain ⟨r, hr⟩ := ih (j + 1) (by omega)
   refine ⟨aQ (f.getD (dv.getD j 0).toNat 0) 3 ++ r, ?_⟩
   rw [hr, ← nI f (by omega), List.append_assoc]
 obtain ⟨r, hr⟩ := key (19 - (k + 1)) (k + 1) (by omega)
 exact ⟨r, by rw [hr, ← nI f h]⟩
theorem Aq (f l : List Int) {k : Nat} (h : k < l.length) : ab.bits f l = ab.bits f (l.take k) ++ wb f l[k] ++ ab.bits f (l.drop (k + 1)) := by
 rw [pw h]
 have : ab.bits f (l.take (k + 1) ++ l.drop (k + 1)) = ab.bits f (l.take (k + 1)) ++ ab.bits f (l.drop (k + 1)) := by unfold ab.bits; exact List.flatMap_append
 rw [← this, List.take_append_drop]
theorem ER {bs o f all u r : List Int} (h : Pq bs o) (hE : aO f = 0) (hall : ∀ x ∈ all, (0 ≤ x ∧ x ≤ 15) ∧ x < f.length ∧ fT f x = true) (e : bs = u ++ ab.bits f all ++ r) : ∀ m k, k + m = all.length → eZ o f all.length m (all.take k) (u ++ ab.bits f (all.take k)).length = .ok (all, (u ++ ab.bits f all).length) := by
 intro m
 induction m with
 | zero =>
  intro k hk
  have : k = all.length := by omega
  subst this
  rw [List.take_length]; exact kK (Nat.le_refl _)
 | succ m ih =>
  intro k hk
  have hk2 : k < all.length := by omega
  have hx := hall all[k] (List.getElem_mem hk2)
  have hs := qW (u := u ++ ab.bits f (all.take k)) (r := ab.bits f (all.drop (k + 1)) ++ r) hE (s := all[k]) hx.1.1 hx.2.1 hx.2.2 h (by rw [e, Aq f all hk2]; simp only [List.append_assoc])
  rw [List.append_assoc, pw hk2] at hs
  have hst := gj (l := all.take k) hs (vZ (B := o) (l := all.take k) (a := (u ++ ab.bits f (all.take (k + 1))).length) (s := all[k]) (by omega))
  have e1 : all.take k ++ List.replicate (1 : Int).toNat all[k] = all.take (k + 1) := by
   rw [List.take_add_one, List.getElem?_eq_getElem hk2]; rfl
  rw [e1] at hst
  rw [ka (by rw [List.length_take]; omega) (by rw [List.length_take]; omega) hst (by rw [List.length_take]; omega)]
  exact ih (k + 1) (by omega)
theorem Ks {B t : List Int} {mo : Int} (hl : B.length ≤ 4194304) (hmo : (B.length : Int) ≤ mo) (hB : aY B) (ht : aY t) : gU (ky (du B) ++ t) mo (B, ((ky (du B)).length : Int), 0) := by
 have hT := rH B
 have hok := hT.ok hB
 have htl : (du B).length ≤ 4194304 := by have := zO hB; omega
 generalize hto : du B = l at *
 have hq := CM (BT l) ht
 generalize hoo : lJ (pY l) ++ t = o at hq
 have hgA := uJ htl
 have hgB := zV htl
 have hgF := wF l
 have hAl := vN htl
 have hBl := xf htl
 have hFl := wT l
 have hLl := nd htl
 have eH : pY l = [] ++ aQ 1 1 ++ (aQ 2 2 ++ aQ 29 5 ++ aQ 29 5 ++ aQ 15 4 ++ dX (dF l) 19 ++ ab.bits (dF l) (bS l) ++ (cv (dA l) (dB l) l ++ wb (dA l) 256)) := by unfold pY fV; simp only [List.append_assoc, List.nil_append]
 have n1 := (mg (u := []) (x := 1) (n := 1) hq eH (by decide)).1
 have n2 := (mg (u := aQ 1 1) (x := 2) (n := 2) (r := aQ 29 5 ++ aQ 29 5 ++ aQ 15 4 ++ dX (dF l) 19 ++ ab.bits (dF l) (bS l) ++ (cv (dA l) (dB l) l ++ wb (dA l) 256)) hq (by unfold pY fV; simp only [List.append_assoc]) (by decide)).1
 have n3 := (mg (u := aQ 1 1 ++ aQ 2 2) (x := 29) (n := 5) (r := aQ 29 5 ++ aQ 15 4 ++ dX (dF l) 19 ++ ab.bits (dF l) (bS l) ++ (cv (dA l) (dB l) l ++ wb (dA l) 256)) hq (by unfold pY fV; simp only [List.append_assoc]) (by decide)).1
 have n4 := (mg (u := aQ 1 1 ++ aQ 2 2 ++ aQ 29 5) (x := 29) (n := 5) (r := aQ 15 4 ++ dX (dF l) 19 ++ ab.bits (dF l) (bS l) ++ (cv (dA l) (dB l) l ++ wb (dA l) 256)) hq (by unfold pY fV; simp only [List.append_assoc]) (by decide)).1
 have n5 := mg (u := aQ 1 1 ++ aQ 2 2 ++ aQ 29 5 ++ aQ 29 5) (x := 15) (n := 4) (r := dX (dF l) 19 ++ ab.bits (dF l) (bS l) ++ (cv (dA l) (dB l) l ++ wb (dA l) 256)) hq (by unfold pY fV; simp only [List.append_assoc]) (by decide)
 have eO : ∀ k, k < 19 → az o (17 + 3 * k) 3 = (dF l).getD (dv.getD k 0).toNat 0 ∧ 17 + 3 * k + 3 ≤ 8 * o.length := fun k hk => by
  obtain ⟨r, hr⟩ := Bb (dF l) hk
  have h7 := IS (l := l) (dv.getD k 0).toNat
  have := mg (u := fV ++ dX (dF l) k) (x := (dF l).getD (dv.getD k 0).toNat 0) (n := 3) (r := r ++ ab.bits (dF l) (bS l) ++ (cv (dA l) (dB l) l ++ wb (dA l) 256)) hq (by unfold pY; rw [hr]; simp only [List.append_assoc]) ⟨h7.1, by have : (2 : Int) ^ 3 = 8 := (by decide); omega⟩
  rw [show (fV ++ dX (dF l) k).length = 17 + 3 * k from by rw [List.length_append, jL _ _ (by omega)]; simp only [fV, List.length_append, dH]] at this
  exact this
 simp only [List.length_append, dH, List.length_nil] at n1 n2 n3 n4 n5
 have hHL : hL o 3 = 286 := by unfold hL; rw [n3]; rfl
 have hHD : hD o 3 = 30 := by unfold hD; rw [n4]; rfl
 have hHC : hC o 3 = 19 := by unfold hC; rw [n5.1]; rfl
 have hTC : bG o 3 = dF l := by unfold bG; rw [hHC]; exact GV hFl (fun k hk => (eO k hk).1)
 have hTA : cY o 3 = 74 := by unfold cY; rw [hHC]
 have hTN : bO o 3 = 316 := by unfold bO; rw [hHL, hHD]
 have hlast := (eO 18 (by omega)).2
 have hUl : (fV ++ dX (dF l) 19).length = 74 := by rw [List.length_append, jL _ _ (Nat.le_refl _)]; simp only [fV, List.length_append, dH]
 have hgo := ER (u := fV ++ dX (dF l) 19) (r := cv (dA l) (dB l) l ++ wb (dA l) 256) (all := bS l) hq hgF.code (fun x hx => ⟨uf htl hx, BA htl hx⟩) rfl 316 0 (by omega)
 rw [List.take_zero, xF, List.append_nil, hUl, hLl] at hgo
 have hta : (bS l).take 286 = dA l := by unfold bS; rw [List.take_append_of_le_length (by omega), List.take_of_length_le (by omega)]
 have htd : (bS l).drop 286 = dB l := by unfold bS; rw [List.drop_append_of_le_length (by omega), List.drop_of_length_le (by omega), List.nil_append]
 have hend : (bS l).getD 256 0 ≠ 0 := by
  have h1 : (bS l).getD 256 0 = (dA l).getD 256 0 := by unfold bS; exact ny _ _ _ (by omega)
  have h2 := nZ l iA (i := 256) (by rw [gW]; omega)
  rw [yN] at h2
  have h3 := (hgA.pos 256 (by rw [lA]; omega) ((ph (by rw [j0, gW]; omega)).2 (by omega))).1
  omega
 have htold := tC (B := o) (a := 3) (by omega) (by rw [hHL, hHD]; omega) (by rw [hTA]; omega) (by rw [hTC]; exact hgF.code) (by rw [hTC, hTN, hTA]; exact hgo) (by rw [hHL, hta]; exact hgA.code) (by rw [hHL, htd]; exact hgB.code) hend
 rw [hHL, hta, htd] at htold
 have hb := pZ (B := o) (s := aa.start) (by show 0 + 3 ≤ _; omega) n2 htold
 have h1 := (jd (B := o) (mo := mo) (s := aa.start) (by decide) rfl).trans hb
 have hz : Rq (dA l) (dB l) o mo _ (fV ++ dX (dF l) 19 ++ ab.bits (dF l) (bS l)).length [] := ⟨eD.one rfl h1, rfl, rfl, by show ¬ (2 : Int) = -1; decide, by show ¬ (2 : Int) = 0; decide, rfl, rfl, by show decide (az o 0 1 = 1) = true; rw [n1]; rfl, rfl, rfl⟩
 have := Bp hmo hB hT hgA.code hgB.code (FT hok htl) hq hz rfl
 unfold ky
 rw [hoo, rX]
 exact this
theorem C8 {B t : List Int} (hl : B.length ≤ 4194304) (hB : aY B) (ht : aY t) : gU (eB B ++ t) B.length (B, ((eB B).length : Int), 0) := by
 rcases CF B with h | h | h <;> rw [h]
 ·exact (HO hl hB ht).1
 ·exact JW (Int.le_refl _) hB ht
 ·exact Ks hl (Int.le_refl _) hB ht
theorem zf {B : List Int} (hl : B.length ≤ 4194304) (hB : aY B) : aY (eB B) := by
 rcases CF B with h | h | h <;> rw [h]
 ·refine ss (jl 64 B) (fun X hX => ⟨wv 64 B (by omega) X hX, fun x hx => hB x ?_⟩)
  rw [← pB 64 B]; exact List.mem_flatten.2 ⟨X, hX, hx⟩
 ·exact zd (C3 _)
 ·exact zd (BT _)
end Go.ad
namespace Go.ad
open Go.af Go.ab Go.aa
section
variable {B : List Int} {b : Int}
def OD (B : List Int) (b : Int) : Prop := ∀ i, i < B.length → B.getD i 0 = b
end
end Go.ad
namespace Go.ad
open Go.af Go.ab Go.aa
def OA (x : Int) : Int := IntKind.u32.wrap (IntKind.u32.wrap (x * 1664525) + 1013904223)
def Ox (x : Int) : Int := IntKind.u8.wrap (x.fdiv (2 ^ (min (24 : Int).toNat IntKind.u32.bits)))
structure Gd (B : List Int) : Prop where
 zb : (eB B).length ≤ 30000000
 lH : aY (eB B)
 res : gU (eB B) (B.length : Int) (B, ((eB B).length : Int), 0)
 most : ((eB B).length : Int) ≤ (B.length : Int) + 5 * (((B.length : Int) + 65534) / 65535) + 5
theorem gd {B : List Int} (hB : aY B) (hl : B.length ≤ 4194304) : Gd B := by
 have h := C8 (t := []) hl hB (fun x hx => by cases hx)
 rw [List.append_nil] at h
 exact ⟨qG hB hl, zf hl hB, h, Ft hl⟩
end Go.ad
namespace Go.ad
open Go.af
theorem aY.app {a b : List Int} (h : aY a) (k : aY b) : aY (a ++ b) := fun x hx => by
 rcases List.mem_append.1 hx with hx | hx
 ·exact h x hx
 ·exact k x hx
end Go.ad
namespace Go.ad
open Go.af Go.aa
end Go.ad
namespace Go.ad
end Go.ad
namespace Go.aH
open Go.af Go.aa
theorem pR {x : Int} (h : 0 ≤ x ∧ x < 256) : ∃ k : Fin 256, x = ((k.val : Nat) : Int) := ⟨⟨x.toNat, by omega⟩, by simp only; omega⟩
theorem BG : ∀ k : Fin 256, IntKind.i64.wrap ((BitVec.ofInt IntKind.i64.bits ((k.val : Nat) : Int) &&& BitVec.ofInt IntKind.i64.bits 15).toNat : Int) = ((k.val : Nat) : Int) % 16 := by decide +kernel
theorem CL : ∀ k : Fin 256, IntKind.i64.wrap ((BitVec.ofInt IntKind.i64.bits ((k.val : Nat) : Int) &&& BitVec.ofInt IntKind.i64.bits 32).toNat : Int) = 32 * (((k.val : Nat) : Int) / 32 % 2) := by decide +kernel
theorem AI : ∀ k : Fin 256, IntKind.u8.wrap ((BitVec.ofInt IntKind.u8.bits ((k.val : Nat) : Int) &&& BitVec.ofInt IntKind.u8.bits 15).toNat : Int) = ((k.val : Nat) : Int) % 16 := by decide +kernel
theorem Av : ∀ k : Fin 256, IntKind.u8.wrap ((BitVec.ofInt IntKind.u8.bits ((k.val : Nat) : Int) &&& BitVec.ofInt IntKind.u8.bits 32).toNat : Int) = 32 * (((k.val : Nat) : Int) / 32 % 2) := by decide +kernel
theorem tK {x : Int} (h : 0 ≤ x ∧ x < 256) : IntKind.i64.wrap ((BitVec.ofInt IntKind.i64.bits x &&& BitVec.ofInt IntKind.i64.bits 15).toNat : Int) = x % 16 := by obtain ⟨k, rfl⟩ := pR h; exact BG k
theorem Gq {x : Int} (h : 0 ≤ x ∧ x < 256) : IntKind.i64.wrap ((BitVec.ofInt IntKind.i64.bits x &&& BitVec.ofInt IntKind.i64.bits 32).toNat : Int) = 32 * (x / 32 % 2) := by obtain ⟨k, rfl⟩ := pR h; exact CL k
theorem qA {x : Int} (h : 0 ≤ x ∧ x < 256) : IntKind.u8.wrap ((BitVec.ofInt IntKind.u8.bits x &&& BitVec.ofInt IntKind.u8.bits 15).toNat : Int) = x % 16 := by obtain ⟨k, rfl⟩ := pR h; exact AI k
theorem Dp {x : Int} (h : 0 ≤ x ∧ x < 256) : IntKind.u8.wrap ((BitVec.ofInt IntKind.u8.bits x &&& BitVec.ofInt IntKind.u8.bits 32).toNat : Int) = 32 * (x / 32 % 2) := by obtain ⟨k, rfl⟩ := pR h; exact Av k
theorem Ga {x : Int} (h : 0 ≤ x) : x.fdiv (2 ^ (min (4 : Int).toNat IntKind.i64.bits)) = x / 16 := by rw [Int.fdiv_eq_ediv_of_nonneg _ (by decide)]; rfl
theorem AA {x : Int} (h : 0 ≤ x) : x.fdiv (2 ^ (min (4 : Int).toNat IntKind.u8.bits)) = x / 16 := by rw [Int.fdiv_eq_ediv_of_nonneg _ (by decide)]; rfl
theorem Dc {a b n : Nat} (hb : b < 2 ^ n) : (a * 2 ^ n) ||| b = a * 2 ^ n + b := by
 have := Nat.shiftLeft_add_eq_or_of_lt hb a
 rw [Nat.shiftLeft_eq] at this
 exact this.symm
theorem wrap32 {n : Int} (h1 : 0 ≤ n) (h2 : n < 4294967296) : IntKind.u32.wrap n = n := by
 have e : IntKind.u32.wrap n = n % 4294967296 := rfl
 rw [e]; omega
theorem wrap64 {n : Int} (h1 : 0 ≤ n) (h2 : n < 4294967296) : IntKind.i64.wrap n = n := Go.Sl.gQ (by omega) (by omega)
theorem qd {x y u : Int} {n : Nat} (hx : x = u * 2 ^ n) (hu : 0 ≤ u) (hy : 0 ≤ y ∧ y < 2 ^ n) (h : x + y < 4294967296) : IntKind.u32.wrap ((BitVec.ofInt IntKind.u32.bits x ||| BitVec.ofInt IntKind.u32.bits y).toNat : Int) = x + y := by
 obtain ⟨a, rfl⟩ : ∃ a : Nat, u = (a : Int) := ⟨u.toNat, by omega⟩
 obtain ⟨b, rfl⟩ : ∃ b : Nat, y = (b : Int) := ⟨y.toNat, by omega⟩
 have e : IntKind.u32.bits = 32 := rfl
 have hb : b < 2 ^ n := by have := hy.2; exact_mod_cast this
 have hx2 : x = ((a * 2 ^ n : Nat) : Int) := by rw [hx]; push_cast; rfl
 subst hx2
 rw [e, BitVec.toNat_or, ep, ep, Nat.mod_eq_of_lt (by omega), Nat.mod_eq_of_lt (by omega), Dc hb, wrap32 (by omega) (by omega)]
 omega
theorem uq {x y u : Int} {n : Nat} (hx : x = u * 2 ^ n) (hu : 0 ≤ u) (hy : 0 ≤ y ∧ y < 2 ^ n) (h : x + y < 4294967296) : IntKind.i64.wrap ((BitVec.ofInt IntKind.i64.bits x ||| BitVec.ofInt IntKind.i64.bits y).toNat : Int) = x + y := by
 obtain ⟨a, rfl⟩ : ∃ a : Nat, u = (a : Int) := ⟨u.toNat, by omega⟩
 obtain ⟨b, rfl⟩ : ∃ b : Nat, y = (b : Int) := ⟨y.toNat, by omega⟩
 have e : IntKind.i64.bits = 64 := rfl
 have hb : b < 2 ^ n := by have := hy.2; exact_mod_cast this
 have hx2 : x = ((a * 2 ^ n : Nat) : Int) := by rw [hx]; push_cast; rfl
 subst hx2
 rw [e, BitVec.toNat_or, ep, ep, Nat.mod_eq_of_lt (by omega), Nat.mod_eq_of_lt (by omega), Dc hb, wrap64 (by omega) (by omega)]
 omega
theorem EC {x r : Int} {n : Nat} {d : Int} (hd : d = (n : Int)) (hn : n ≤ 32) (hr : r = x * 2 ^ n) (h0 : 0 ≤ r) (h1 : r < 4294967296) : IntKind.i64.wrap (x * 2 ^ (min d.toNat IntKind.i64.bits)) = r := by
 have e : min d.toNat IntKind.i64.bits = n := by
  have : IntKind.i64.bits = 64 := rfl
  omega
 rw [e, ← hr]; exact wrap64 h0 h1
theorem qJ {x r : Int} {n : Nat} {d : Int} (hd : d = (n : Int)) (hn : n ≤ 32) (hr : r = x * 2 ^ n) (h0 : 0 ≤ r) (h1 : r < 4294967296) : IntKind.u32.wrap (x * 2 ^ (min d.toNat IntKind.u32.bits)) = r := by
 have e : min d.toNat IntKind.u32.bits = n := by
  have : IntKind.u32.bits = 32 := rfl
  omega
 rw [e, ← hr]; exact wrap32 h0 h1
theorem DS {x : Int} {n : Nat} {d : Int} (hd : d = (n : Int)) (hn : n ≤ 32) : x.fdiv (2 ^ (min d.toNat IntKind.u32.bits)) = x / 2 ^ n := by
 have e : min d.toNat IntKind.u32.bits = n := by
  have : IntKind.u32.bits = 32 := rfl
  omega
 rw [e, Int.fdiv_eq_ediv_of_nonneg _ (Int.le_of_lt (Int.pow_pos (by decide)))]
def pU (s : Int × Int) (c : Int) : Int × Int := ((s.1 + c) % 65521, (s.2 + (s.1 + c) % 65521) % 65521)
def eV (l : List Int) : Int × Int := l.foldl pU (1, 0)
theorem ru : eV [] = (1, 0) := rfl
theorem EX (l : List Int) (c : Int) : eV (l ++ [c]) = pU (eV l) c := by simp [eV]
theorem oO {l : List Int} {i : Nat} (h : i < l.length) : eV (l.take (i + 1)) = pU (eV (l.take i)) (l.getD i 0) := by rw [aa.Dq h, EX]
theorem Kg (s : Int × Int) (c : Int) : (0 ≤ (pU s c).1 ∧ (pU s c).1 < 65521) ∧ 0 ≤ (pU s c).2 ∧ (pU s c).2 < 65521 := by unfold pU; simp only; omega
theorem G3 (l : List Int) : ∀ s : Int × Int, ((0 ≤ s.1 ∧ s.1 < 65521) ∧ 0 ≤ s.2 ∧ s.2 < 65521) → (0 ≤ (l.foldl pU s).1 ∧ (l.foldl pU s).1 < 65521) ∧ 0 ≤ (l.foldl pU s).2 ∧ (l.foldl pU s).2 < 65521 := by
 induction l with
 | nil => exact fun s h => h
 | cons a l ih => exact fun s h => ih _ (Kg s a)
theorem qX (l : List Int) : (0 ≤ (eV l).1 ∧ (eV l).1 < 65521) ∧ 0 ≤ (eV l).2 ∧ (eV l).2 < 65521 := G3 l _ (by decide)
def iT (l : List Int) : Int := (eV l).2 * 65536 + (eV l).1
theorem xe (l : List Int) : 0 ≤ iT l ∧ iT l < 4294967296 := by have := qX l; unfold iT; omega
def kF (l : List Int) : List Int := [iT l / 16777216, iT l / 65536 % 256, iT l / 256 % 256, iT l % 256]
theorem oi (l : List Int) : (kF l).length = 4 := rfl
theorem rv (l : List Int) : aY (kF l) := fun x hx => by
 have := xe l
 simp only [kF, List.mem_cons, List.not_mem_nil, or_false] at hx
 rcases hx with rfl | rfl | rfl | rfl <;> omega
def wZ (l : List Int) : Int := l.getD 0 0 * 16777216 + l.getD 1 0 * 65536 + l.getD 2 0 * 256 + l.getD 3 0
theorem HH (l : List Int) : wZ (kF l) = iT l := by
 have := xe l
 simp only [wZ, kF, List.getD_cons_zero, List.getD_cons_succ]
 omega
theorem Hf {l b : List Int} (hl : l.length = 4) (hb : aY l) (h : wZ l = iT b) : l = kF b := by
 match l, hl with
 | [x, y, z, t], _ =>
  have h1 := hb x (by simp); have h2 := hb y (by simp); have h3 := hb z (by simp); have h4 := hb t (by simp)
  simp only [wZ, List.getD_cons_zero, List.getD_cons_succ] at h
  simp only [kF, ← h]
  have e1 : (x * 16777216 + y * 65536 + z * 256 + t) / 16777216 = x := by omega
  have e2 : (x * 16777216 + y * 65536 + z * 256 + t) / 65536 % 256 = y := by omega
  have e3 : (x * 16777216 + y * 65536 + z * 256 + t) / 256 % 256 = z := by omega
  have e4 : (x * 16777216 + y * 65536 + z * 256 + t) % 256 = t := by omega
  rw [e1, e2, e3, e4]
def Hd (a b : Int) : Prop := a % 16 = 8 ∧ a / 16 ≤ 7 ∧ (a * 256 + b) % 31 = 0 ∧ 32 * (b / 32 % 2) = 0
instance (a b : Int) : Decidable (Hd a b) := by unfold Hd; infer_instance
theorem Li (a b : Int) : ¬ a % 16 = 8 ∨ (a % 16 = 8 ∧ ¬ a / 16 ≤ 7) ∨ (a % 16 = 8 ∧ a / 16 ≤ 7 ∧ ¬ (a * 256 + b) % 31 = 0) ∨ (a % 16 = 8 ∧ a / 16 ≤ 7 ∧ (a * 256 + b) % 31 = 0 ∧ ¬ 32 * (b / 32 % 2) = 0) ∨ (a % 16 = 8 ∧ a / 16 ≤ 7 ∧ (a * 256 + b) % 31 = 0 ∧ 32 * (b / 32 % 2) = 0) := by omega
def fin (D : List Int) (r : List Int × Int × Int) : List Int × Int :=
 if ¬ r.2.2 = 0 then ([], r.2.2) else if D.length - r.2.1.toNat < 4 then ([], 2) else if 4 < D.length - r.2.1.toNat then ([], 4) else if D.drop r.2.1.toNat = kF r.1 then (r.1, 0) else ([], 5)
def qO (B : List Int) (mo : Int) (q : List Int × Int) : Prop :=
 (B.length < 6 ∧ q = ([], 2)) ∨ (6 ≤ B.length ∧ ¬ Hd (B.getD 0 0) (B.getD 1 0) ∧ q = ([], 4)) ∨ (6 ≤ B.length ∧ Hd (B.getD 0 0) (B.getD 1 0) ∧ ∃ r, gU (B.drop 2) mo r ∧ q = fin (B.drop 2) r)
theorem jW {B : List Int} (h : aY B) (n : Nat) : aY (B.drop n) := fun x hx => h x (List.mem_of_mem_drop hx)
theorem Jv {B : List Int} {mo : Int} (hB : aY B) {q : List Int × Int × Int} (h : gU B mo q) : aY q.1 ∧ 0 ≤ q.2.1 ∧ q.2.1 ≤ B.length ∧ (q.1 = [] ∨ (q.1.length : Int) ≤ mo) := by
 rcases h with ⟨_, rfl⟩ | ⟨h0, o, ho, rfl⟩
 ·exact ⟨fun x hx => by (cases hx), by decide, by simp, .inl rfl⟩
 ·cases o with
  | error e => exact ⟨fun x hx => by (cases hx), by simp [Ou], by simp [Ou], .inl rfl⟩
  | ok p =>
   obtain ⟨x, n⟩ := p
   obtain ⟨h1, h2, h3⟩ := BZ hB ho (oP (by omega)) x n rfl
   exact ⟨h3, by simp [Ou], by simp only [Ou]; omega, .inr h1⟩
end Go.aH
namespace Go.aH
open Go.af Go.aa Go.ad
theorem KY {a b : Int} (h : ¬ Hd a b) : ¬ a % 16 = 8 ∨ (a % 16 = 8 ∧ ¬ a / 16 ≤ 7) ∨ (a % 16 = 8 ∧ a / 16 ≤ 7 ∧ ¬ (a * 256 + b) % 31 = 0) ∨ (a % 16 = 8 ∧ a / 16 ≤ 7 ∧ (a * 256 + b) % 31 = 0 ∧ ¬ 32 * (b / 32 % 2) = 0) := by
 unfold Hd at h; omega
theorem qO.ways {B : List Int} {mo : Int} {q : List Int × Int} (hB : aY B) (hm : mo < 500000000) (h : qO B mo q) :
  (B.length < 6 ∧ q = ([], 2)) ∨ (6 ≤ B.length ∧ ¬ Hd (B.getD 0 0) (B.getD 1 0) ∧ q = ([], 4)) ∨
  (∃ e, 6 ≤ B.length ∧ Hd (B.getD 0 0) (B.getD 1 0) ∧ gU (B.drop 2) mo ([], ((0 : Nat) : Int), e) ∧ ¬ e = 0 ∧ q = ([], e)) ∨
  (∃ (x : List Int) (n : Nat), 6 ≤ B.length ∧ Hd (B.getD 0 0) (B.getD 1 0) ∧ gU (B.drop 2) mo (x, (n : Int), 0) ∧ aY x ∧ x.length < 500000000 ∧ n ≤ B.length - 2 ∧ B.length - (2 + n) < 4 ∧ q = ([], 2)) ∨
  (∃ (x : List Int) (n : Nat), 6 ≤ B.length ∧ Hd (B.getD 0 0) (B.getD 1 0) ∧ gU (B.drop 2) mo (x, (n : Int), 0) ∧ aY x ∧ x.length < 500000000 ∧ n ≤ B.length - 2 ∧ 4 < B.length - (2 + n) ∧ q = ([], 4)) ∨
  (∃ (x : List Int) (n : Nat), 6 ≤ B.length ∧ Hd (B.getD 0 0) (B.getD 1 0) ∧ gU (B.drop 2) mo (x, (n : Int), 0) ∧ aY x ∧ x.length < 500000000 ∧ n ≤ B.length - 2 ∧ B.length - (2 + n) = 4 ∧ ¬ B.drop (2 + n) = kF x ∧ q = ([], 5)) ∨
  (∃ (x : List Int) (n : Nat), 6 ≤ B.length ∧ Hd (B.getD 0 0) (B.getD 1 0) ∧ gU (B.drop 2) mo (x, (n : Int), 0) ∧ aY x ∧ x.length < 500000000 ∧ n ≤ B.length - 2 ∧ B.length - (2 + n) = 4 ∧ B.drop (2 + n) = kF x ∧ q = (x, 0)) := by
 rcases h with h | h | ⟨h6, hh, ⟨x, n, e⟩, hr, hq⟩
 ·exact .inl h
 ·exact .inr (.inl h)
 ·obtain ⟨i1, i2, i3, i4⟩ := Jv (jW hB 2) hr
  simp only [List.length_drop] at i1 i2 i3 i4
  have hxl : x.length < 500000000 := by
   rcases i4 with h | h
   ·rw [h]; decide
   ·omega
  have hez : ¬ e = 0 → x = [] ∧ n = 0 := fun he => by
   rcases hr with ⟨_, h⟩ | ⟨_, o, _, h⟩
   ·cases h; exact ⟨rfl, rfl⟩
   ·cases o
    ·cases h; exact ⟨rfl, rfl⟩
    ·cases h; exact absurd rfl he
  obtain ⟨k, rfl⟩ : ∃ k : Nat, n = (k : Int) := ⟨n.toNat, by omega⟩
  unfold fin at hq
  simp only [List.length_drop, List.drop_drop, Int.toNat_natCast] at hq
  split at hq
  ·rename_i h1
   obtain ⟨rfl, h2⟩ := hez h1
   obtain rfl : k = 0 := by omega
   exact .inr (.inr (.inl ⟨_, h6, hh, hr, h1, hq⟩))
  ·rename_i h1
   obtain rfl : e = 0 := by omega
   split at hq
   ·rename_i h2; exact .inr (.inr (.inr (.inl ⟨_, _, h6, hh, hr, i1, hxl, by omega, by omega, hq⟩)))
   ·split at hq
    ·rename_i h2 h3; exact .inr (.inr (.inr (.inr (.inl ⟨_, _, h6, hh, hr, i1, hxl, by omega, by omega, hq⟩))))
    ·split at hq
     ·rename_i h2 h3 h4; exact .inr (.inr (.inr (.inr (.inr (.inr ⟨_, _, h6, hh, hr, i1, hxl, by omega, by omega, h4, hq⟩)))))
     ·rename_i h2 h3 h4; exact .inr (.inr (.inr (.inr (.inr (.inl ⟨_, _, h6, hh, hr, i1, hxl, by omega, by omega, h4, hq⟩)))))
theorem qO.JI {B : List Int} {mo : Int} {q : List Int × Int} (hB : aY B) (hm : mo < 500000000) (h : qO B mo q) :
  (B.length < 6 ∧ q = ([], 2)) ∨ (6 ≤ B.length ∧ ¬ Hd (B.getD 0 0) (B.getD 1 0) ∧ q = ([], 4)) ∨
  (∃ (x : List Int) (n : Nat) (e : Int), 6 ≤ B.length ∧ Hd (B.getD 0 0) (B.getD 1 0) ∧ gU (B.drop 2) mo (x, (n : Int), e) ∧ aY x ∧ x.length < 500000000 ∧ n ≤ B.length - 2 ∧
   ((¬ e = 0 ∧ q = ([], e)) ∨ (e = 0 ∧ B.length - (2 + n) < 4 ∧ q = ([], 2)) ∨ (e = 0 ∧ 4 < B.length - (2 + n) ∧ q = ([], 4)) ∨ (e = 0 ∧ B.length - (2 + n) = 4 ∧ ¬ B.drop (2 + n) = kF x ∧ q = ([], 5)) ∨ (e = 0 ∧ B.length - (2 + n) = 4 ∧ B.drop (2 + n) = kF x ∧ q = (x, 0)))) := by
 rcases h.ways hB hm with h | h | ⟨e, a, b, c, d, r⟩ | ⟨x, n, a, b, c, d, f, g, r⟩ | ⟨x, n, a, b, c, d, f, g, r⟩ | ⟨x, n, a, b, c, d, f, g, r⟩ | ⟨x, n, a, b, c, d, f, g, r⟩
 ·exact .inl h
 ·exact .inr (.inl h)
 ·exact .inr (.inr ⟨[], 0, e, a, b, c, fun x hx => (by cases hx), by decide, by omega, .inl ⟨d, r⟩⟩)
 ·exact .inr (.inr ⟨x, n, 0, a, b, c, d, f, g, .inr (.inl ⟨rfl, r⟩)⟩)
 ·exact .inr (.inr ⟨x, n, 0, a, b, c, d, f, g, .inr (.inr (.inl ⟨rfl, r⟩))⟩)
 ·exact .inr (.inr ⟨x, n, 0, a, b, c, d, f, g, .inr (.inr (.inr (.inl ⟨rfl, r⟩)))⟩)
 ·exact .inr (.inr ⟨x, n, 0, a, b, c, d, f, g, .inr (.inr (.inr (.inr ⟨rfl, r⟩)))⟩)
theorem uh {l : List Int} (h : aY l) : ∀ x ∈ l, 0 ≤ x ∧ x < 256 := h
def zS (B : List Int) : List Int := [120, 1] ++ eB B ++ kF B
theorem x7 (B : List Int) : (zS B).length = 6 + (eB B).length := by simp [zS, oi]; omega
theorem rB (B : List Int) : zS B = 120 :: 1 :: (eB B ++ kF B) := by simp [zS]
theorem w7 {a : Int} {l : List Int} (h : 0 ≤ a ∧ a < 256) (k : aY l) : aY (a :: l) := fun x hx => by
 rcases List.mem_cons.1 hx with rfl | hx
 ·exact h
 ·exact k x hx
theorem xS {B : List Int} (hB : aY B) (hl : B.length ≤ 4194304) : aY (zS B) := by
 rw [rB]
 exact w7 (by decide) (w7 (by decide) (aY.app (zf hl hB) (rv B)))
theorem HV {B t : List Int} {a b : Int} (hB : aY B) (hl : B.length ≤ 4194304) (ht : aY t) (hh : Hd a b) (h4 : 4 ≤ (eB B).length + t.length) : qO (a :: b :: (eB B ++ t)) (B.length : Int) (if t.length < 4 then ([], 2) else if 4 < t.length then ([], 4) else if t = kF B then (B, 0) else ([], 5)) := by
 refine .inr (.inr ⟨by simp; omega, hh, (B, ((eB B).length : Int), 0), C8 hl hB ht, ?_⟩)
 have e1 : (eB B ++ t).length - (eB B).length = t.length := by rw [List.length_append]; omega
 have e2 : (eB B ++ t).drop (eB B).length = t := List.drop_left
 simp only [fin, List.drop_succ_cons, List.drop_zero, Int.toNat_natCast, not_true_eq_false, if_false, e1, e2]
theorem FM : Hd 120 1 := by unfold Hd; decide
theorem yo {B : List Int} (hB : aY B) (hl : B.length ≤ 4194304) : qO (zS B) (B.length : Int) (B, 0) := by
 have h := HV hB hl (rv B) FM (by rw [oi]; omega)
 rw [oi, if_neg (by decide), if_neg (by decide), if_pos rfl, ← rB] at h
 exact h
theorem Kd : qO [120, 1, 3, 0, 0, 0, 0, 1] 0 ([], 0) := by
 refine .inr (.inr ⟨by decide, FM, ([], 2, 0), DX (f := 9) (by decide) (by kernel_rfl), ?_⟩)
 decide
end Go.aH
namespace Go.aH
open Go.af Go.aa Go.ad
theorem MV (B : List Int) : (zS B).getD (0 : Int).toNat 0 = 120 := by rw [rB]; rfl
theorem My (B : List Int) : (zS B).getD (1 : Int).toNat 0 = 1 := by rw [rB]; rfl
def xr (a d : Int) : Int := IntKind.u8.wrap ((BitVec.ofInt IntKind.u8.bits a ^^^ BitVec.ofInt IntKind.u8.bits d).toNat : Int)
end Go.aH

/-
  The plain side of 'fair', part 4: a step of the shares; the weights that the laws hand over.
-/
import Derived.Test.YtpkemaglokbfiaaFairPlain3
namespace Go.FairP
open Go.Sl
set_option linter.unusedVariables false
def cycD (q : List Int) (r : Nat) (c : Int) : List Mb := if h : r < q.length then cyc q r c h else []
def spD (q : List Int) (t : Int) (r : Nat) (part : Int) : List Int := if h : r < q.length then spOf q t r part h else []
def part (q : List Int) (r : Nat) (c : Int) : Int := if c = 0 then 0 else q.getD r 0 - c
def tot (q : List Int) (t : Int) (r : Nat) (c : Int) : Int := t * q.sum + (q.take r).sum + part q r c
/-- What Spend leaves where it is a yes. -/
def spent (m : Mb) (n : Int) : Mb := { m with c := m.c - n }
def spendL (m : Mb) (r : List Mb) (n : Int) : List Mb := if n < m.c then spent m n :: r else r ++ [zero m]
theorem take_sum_le {q : List Int} (hq : ∀ x ∈ q, 1 ≤ x) (r : Nat) : 0 ≤ (q.take r).sum ∧ (q.take r).sum ≤ q.sum := by
  have pos : ∀ l : List Int, (∀ x ∈ l, 1 ≤ x) → 0 ≤ l.sum := by
    intro l h
    induction l with
    | nil => simp
    | cons x l ih =>
      have := h x (by simp)
      have := ih (fun y hy => h y (by simp [hy]))
      simp only [List.sum_cons]; omega
  have e : q.sum = (q.take r).sum + (q.drop r).sum := by
    conv => lhs; rw [← List.take_append_drop r q, List.sum_append]
  have h1 := pos (q.take r) (fun x hx => hq x (List.mem_of_mem_take hx))
  have h2 := pos (q.drop r) (fun x hx => hq x (List.mem_of_mem_drop hx))
  omega
theorem take_sum_succ {q : List Int} {r : Nat} (h : r < q.length) : (q.take (r + 1)).sum = (q.take r).sum + q[r] := by
  rw [List.take_succ_eq_append_getElem h, List.sum_append]
  simp
structure Ks (q : List Int) (k : Int) (t : Int) (r : Nat) (c : Int) : Prop where
  hr : r < q.length
  ht : 0 ≤ t
  c0 : 0 ≤ c
  c1 : c ≤ q.getD r 0
  le : tot q t r c ≤ k * q.sum
/-- A step of the shares. -/
theorem turn_step {q : List Int} {k t c u : Int} {r : Nat} (hq : ∀ x ∈ q, 1 ≤ x) (h : Ks q k t r c) (hlt : tot q t r c < k * q.sum) (hu1 : 1 ≤ u) (hu2 : u ≤ (if c = 0 then q.getD r 0 else c)) :
    ∃ t2 r2 c2, Ks q k t2 r2 c2 ∧ spendL ⟨r, q.getD r 0, if c = 0 then q.getD r 0 else c⟩ ((base q).drop (r + 1) ++ (base q).take r) u = cycD q r2 c2 ∧
      spD q t r (part q r c + u) = spD q t2 r2 (part q r2 c2) ∧ tot q t2 r2 c2 = tot q t r c + u := by
  obtain ⟨hr, ht, hc0, hc1, hle⟩ := h
  have hg : q.getD r 0 = q[r] := by simp [hr]
  have hqr : 1 ≤ q[r] := hq _ (List.getElem_mem _)
  rw [hg] at hu2 hc1 ⊢
  have hp : part q r c + (if c = 0 then q[r] else c) = q[r] := by
    unfold part; rw [hg]; split <;> omega
  have htS : t < k := by
    rcases Int.lt_or_le t k with h1 | h1
    · exact h1
    · exfalso
      have h2 := (take_sum_le hq r).1
      have h3 := (take_sum_le hq q.length).1
      rw [List.take_length] at h3
      have h4 : k * q.sum ≤ t * q.sum := Int.mul_le_mul_of_nonneg_right h1 h3
      have h5 : 0 ≤ part q r c := by unfold part; rw [hg]; split <;> omega
      unfold tot at hlt
      omega
  have hS := (take_sum_le hq (r + 1)).2
  rw [take_sum_succ hr] at hS
  have hk1 : (t + 1) * q.sum ≤ k * q.sum := Int.mul_le_mul_of_nonneg_right (by omega) (by have := (take_sum_le hq q.length).1; rwa [List.take_length] at this)
  rw [Int.add_mul, Int.one_mul] at hk1
  rcases Int.lt_or_le u (if c = 0 then q[r] else c) with hlt2 | hge
  · refine ⟨t, r, (if c = 0 then q[r] else c) - u, ⟨hr, ht, by omega, ?_, ?_⟩, ?_, ?_, ?_⟩
    · rw [hg]; split <;> omega
    · unfold tot
      have : part q r ((if c = 0 then q[r] else c) - u) = q[r] - ((if c = 0 then q[r] else c) - u) := by unfold part; rw [if_neg (by omega), hg]
      rw [this]; omega
    · unfold spendL
      rw [if_pos hlt2]
      unfold cycD
      rw [dif_pos hr]
      rfl
    · have : part q r ((if c = 0 then q[r] else c) - u) = q[r] - ((if c = 0 then q[r] else c) - u) := by unfold part; rw [if_neg (by omega), hg]
      rw [this, show q[r] - ((if c = 0 then q[r] else c) - u) = part q r c + u by omega]
    · unfold tot
      have : part q r ((if c = 0 then q[r] else c) - u) = q[r] - ((if c = 0 then q[r] else c) - u) := by unfold part; rw [if_neg (by omega), hg]
      rw [this]; omega
  · have hu : u = (if c = 0 then q[r] else c) := by omega
    have hsp : spD q t r (part q r c + u) = spOf q t r q[r] hr := by
      unfold spD
      rw [dif_pos hr, hu, hp]
    rw [hsp]
    have hcy : spendL ⟨r, q[r], if c = 0 then q[r] else c⟩ ((base q).drop (r + 1) ++ (base q).take r) u = ((base q).drop (r + 1) ++ (base q).take r) ++ [⟨r, q[r], 0⟩] := by
      unfold spendL
      rw [if_neg (by show ¬ u < (if c = 0 then q[r] else c); omega)]
      rfl
    rw [hcy, cyc_rest q r hr, spOf_next q t r hr]
    have hpz : ∀ j, part q j 0 = 0 := fun j => by unfold part; rw [if_pos rfl]
    by_cases h2 : r + 1 < q.length
    · refine ⟨t, r + 1, 0, ⟨h2, ht, by omega, ?_, ?_⟩, ?_, ?_, ?_⟩
      · have : 1 ≤ q[r + 1] := hq _ (List.getElem_mem _)
        simp [h2]; omega
      · unfold tot; rw [hpz, take_sum_succ hr]; omega
      · rw [dif_pos h2]; unfold cycD; rw [dif_pos h2]
      · rw [dif_pos h2, hpz]; unfold spD; rw [dif_pos h2]
      · unfold tot; rw [hpz, take_sum_succ hr]; omega
    · have h0 : 0 < q.length := by omega
      have e : q.take (r + 1) = q := List.take_of_length_le (by omega)
      have e2 := take_sum_succ hr
      rw [e] at e2
      refine ⟨t + 1, 0, 0, ⟨h0, by omega, by omega, ?_, ?_⟩, ?_, ?_, ?_⟩
      · have : 1 ≤ q[0] := hq _ (List.getElem_mem _)
        simp [h0]; omega
      · unfold tot; rw [hpz, List.take_zero, Int.add_mul]; simp; omega
      · rw [dif_neg h2]; unfold cycD; rw [dif_pos h0]
      · rw [dif_neg h2, hpz]; unfold spD; rw [dif_pos h0]
      · unfold tot; rw [hpz, List.take_zero, Int.add_mul]; simp; omega
/-- At the end each has spent its quantum as often. -/
theorem turn_end {q : List Int} {k t c : Int} {r : Nat} (hq : ∀ x ∈ q, 1 ≤ x) (h : Ks q k t r c) (he : tot q t r c = k * q.sum) : spD q t r (part q r c) = q.map (fun x => k * x) := by
  obtain ⟨hr, ht, hc0, hc1, hle⟩ := h
  have hg : q.getD r 0 = q[r] := by simp [hr]
  rw [hg] at hc1
  have hqr : 1 ≤ q[r] := hq _ (List.getElem_mem _)
  have hS := (take_sum_le hq (r + 1)).2
  rw [take_sum_succ hr] at hS
  have h0 := (take_sum_le hq r).1
  have hSp : 1 ≤ q.sum := by omega
  have hp0 : 0 ≤ part q r c ∧ part q r c < q[r] := by unfold part; rw [hg]; split <;> omega
  unfold tot at he
  have htk : t = k := by
    have e : (k - t) * q.sum = (q.take r).sum + part q r c := by rw [Int.sub_mul]; omega
    rcases Int.lt_trichotomy t k with h1 | h1 | h1
    · exfalso
      have := Int.mul_le_mul_of_nonneg_right (show 1 ≤ k - t by omega) (show 0 ≤ q.sum by omega)
      omega
    · exact h1
    · exfalso
      have := Int.mul_le_mul_of_nonneg_right (show k - t ≤ -1 by omega) (show 0 ≤ q.sum by omega)
      omega
  subst htk
  have hz : (q.take r).sum = 0 ∧ part q r c = 0 := by omega
  have hr0 : r = 0 := by
    rcases Nat.eq_zero_or_pos r with h1 | h1
    · exact h1
    · exfalso
      obtain ⟨r', rfl⟩ : ∃ r', r = r' + 1 := ⟨r - 1, by omega⟩
      rw [take_sum_succ (show r' < q.length by omega)] at hz
      have := (take_sum_le hq r').1
      have : 1 ≤ q[r'] := hq _ (List.getElem_mem _)
      omega
  subst hr0
  unfold spD
  rw [dif_pos hr, hz.2, spOf_zero]
end Go.FairP

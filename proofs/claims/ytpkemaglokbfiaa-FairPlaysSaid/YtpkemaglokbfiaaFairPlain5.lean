/-
  The plain side of 'fair', part 5: weights of sixteenths; rows that are filled.
-/
import Derived.Test.YtpkemaglokbfiaaFairPlain4
namespace Go.FairP
open Go.Sl
set_option linter.unusedVariables false
def wtB (q : Nat) : Bool := match FloatKind.f64.format.div (FloatKind.f64.nearest (q : Int)) sixteen with
  | some x => fqB x q
  | none => false
theorem wt_all : (List.range 257).all (fun q => q == 0 || wtB q) = true := by decide +kernel
theorem wt {q : Int} (h1 : 1 ≤ q) (h2 : q ≤ 256) : ∃ x, FloatKind.f64.format.div (FloatKind.f64.nearest q) sixteen = some x ∧ Fq x q := by
  obtain ⟨n, rfl⟩ : ∃ n : Nat, q = n := ⟨q.toNat, by omega⟩
  have h := List.all_eq_true.1 wt_all n (by simp; omega)
  simp only [Bool.or_eq_true, beq_iff_eq] at h
  rcases h with h | h
  · omega
  · unfold wtB at h
    split at h
    · rename_i x e
      exact ⟨x, e, fq_of h⟩
    · cases h
theorem fill_set {α : Type} (A : List α) (z x : α) (n : Nat) (h : A.length < n) : (A ++ List.replicate (n - A.length) z).set A.length x = (A ++ [x]) ++ List.replicate (n - (A.length + 1)) z := by
  rw [List.set_append_right _ _ (Nat.le_refl _), Nat.sub_self, show n - A.length = (n - (A.length + 1)) + 1 by omega, List.replicate_succ, List.set_cons_zero, List.append_assoc]
  rfl
def qs (ws : List Int) : List Int := ws.map (fun x => 1 + x)
theorem qs_len (ws : List Int) : (qs ws).length = ws.length := by simp [qs]
theorem qs_get {ws : List Int} {k : Nat} (h : k < ws.length) : (qs ws)[k]'(by rw [qs_len]; exact h) = 1 + ws[k] := by simp [qs]
theorem fill_q {ws : List Int} {k : Nat} (h : k < ws.length) : (ints .i64 ((qs ws).take k ++ List.replicate (ws.length - k) 0)).set k (.int .i64 (1 + ws[k])) = ints .i64 ((qs ws).take (k + 1) ++ List.replicate (ws.length - (k + 1)) 0) := by
  have hl : ((qs ws).take k).length = k := by simp [qs_len]; omega
  have h2 := fill_set ((qs ws).take k) 0 (1 + ws[k]) ws.length (by omega)
  rw [hl] at h2
  rw [ints_set, h2, List.take_succ_eq_append_getElem (show k < (qs ws).length by rw [qs_len]; exact h), qs_get h]
theorem fill_b {n k : Nat} (h : k < n) : (bools (List.replicate k true ++ List.replicate (n - k) false)).set k (.bool true) = bools (List.replicate (k + 1) true ++ List.replicate (n - (k + 1)) false) := by
  have h2 := fill_set (List.replicate k true) false true n (by simpa using h)
  simp only [List.length_replicate] at h2
  rw [bools_set, h2, ← List.replicate_succ']
theorem row_q {ws : List Int} {k : Nat} (h : k < ws.length) : (ints .i64 ((qs ws).take (k + 1) ++ List.replicate (ws.length - (k + 1)) 0))[k]? = some (.int .i64 (1 + ws[k])) := by
  have hl : k < ((qs ws).take (k + 1)).length := by simp [qs_len]; omega
  rw [ints_get (by simp [qs_len]; omega), List.getElem_append_left hl, List.getElem_take, qs_get h]
theorem base_take {ws : List Int} {k : Nat} (h : k < ws.length) : base ((qs ws).take k) ++ [⟨k, 1 + ws[k], 0⟩] = base ((qs ws).take (k + 1)) := by
  have hl : ((qs ws).take k).length = k := by simp [qs_len]; omega
  rw [List.take_succ_eq_append_getElem (show k < (qs ws).length by rw [qs_len]; exact h), base_snoc, hl, qs_get h]
theorem sum_take {ws : List Int} {k : Nat} (h : k < ws.length) : ((qs ws).take k).sum + (1 + ws[k]) = ((qs ws).take (k + 1)).sum := by
  rw [take_sum_succ (show k < (qs ws).length by rw [qs_len]; exact h), qs_get h]
theorem sum_bound {ws : List Int} (hw : ∀ x ∈ ws, 0 ≤ x ∧ x ≤ 255) (k : Nat) (hk : k ≤ ws.length) : 0 ≤ ((qs ws).take k).sum ∧ ((qs ws).take k).sum ≤ 256 * k := by
  induction k with
  | zero => simp
  | succ k ih =>
    have h := hw ws[k] (List.getElem_mem _)
    rw [← sum_take hk]
    have := ih (by omega)
    omega
theorem base_out {ws : List Int} {k : Nat} (h : k ≤ ws.length) : (base ((qs ws).take k)).findIdx? (isWho k) = none := by
  have h1 := base_none ((qs ws).take k)
  rwa [show ((qs ws).take k).length = k by simp [qs_len]; omega] at h1
theorem qs_pos {ws : List Int} (hw : ∀ x ∈ ws, 0 ≤ x ∧ x ≤ 255) : ∀ x ∈ qs ws, 1 ≤ x ∧ x ≤ 256 := by
  intro x hx
  simp only [qs, List.mem_map] at hx
  obtain ⟨y, hy, rfl⟩ := hx
  have := hw y hy
  omega
theorem Ks.t_le {q : List Int} {k t c : Int} {r : Nat} (hq : ∀ x ∈ q, 1 ≤ x) (h : Ks q k t r c) : t ≤ k := by
  obtain ⟨hr, ht, hc0, hc1, hle⟩ := h
  have hg : q.getD r 0 = q[r] := by simp [hr]
  rw [hg] at hc1
  have h0 := (take_sum_le hq r).1
  have h3 := take_sum_le hq q.length
  rw [List.take_length] at h3
  have hqr : 1 ≤ q[r] := hq _ (List.getElem_mem _)
  have hS := (take_sum_le hq (r + 1)).2
  rw [take_sum_succ hr] at hS
  have hp : 0 ≤ part q r c := by unfold part; rw [hg]; split <;> omega
  unfold tot at hle
  rcases Int.lt_or_le k t with h1 | h1
  · exfalso
    have := Int.mul_le_mul_of_nonneg_right (show k + 1 ≤ t by omega) (show 0 ≤ q.sum by omega)
    rw [Int.add_mul, Int.one_mul] at this
    omega
  · exact h1
theorem Ks.part_le {q : List Int} {k t c : Int} {r : Nat} (h : Ks q k t r c) : 0 ≤ part q r c ∧ part q r c ≤ q.getD r 0 := by
  obtain ⟨hr, ht, hc0, hc1, hle⟩ := h
  unfold part; split <;> omega
theorem spD_len {q : List Int} {t p : Int} {r : Nat} (h : r < q.length) : (spD q t r p).length = q.length := by
  unfold spD; rw [dif_pos h, spOf_len]
theorem spD_get {q : List Int} {t p : Int} {r : Nat} (h : r < q.length) : (ints .i64 (spD q t r p))[r]? = some (.int .i64 (t * q.getD r 0 + p)) := by
  rw [ints_get (by rw [spD_len h]; exact h)]
  unfold spD
  simp only [dif_pos h]
  rw [spOf_get q t r p h]
  simp [h]
theorem spD_set {q : List Int} {t p u : Int} {r : Nat} (h : r < q.length) : (ints .i64 (spD q t r p)).set r (.int .i64 (t * q.getD r 0 + p + u)) = ints .i64 (spD q t r (p + u)) := by
  rw [ints_set]
  unfold spD
  simp only [dif_pos h]
  rw [show q.getD r 0 = q[r] by simp [h], spOf_set q t r p u h]
theorem spD_start {q : List Int} (h : 0 < q.length) : List.replicate q.length (0 : Int) = spD q 0 0 (part q 0 0) := by
  unfold spD
  rw [dif_pos h, show part q 0 0 = 0 from by unfold part; rw [if_pos rfl], spOf_zero]
  apply List.ext_getElem <;> simp
theorem Ks.start {q : List Int} {k : Int} (hq : ∀ x ∈ q, 1 ≤ x) (h : 0 < q.length) (hk : 0 ≤ k) : Ks q k 0 0 0 := by
  have h1 : 1 ≤ q[0] := hq _ (List.getElem_mem _)
  refine ⟨h, by omega, by omega, by simp [h]; omega, ?_⟩
  unfold tot part
  rw [if_pos rfl]
  have h3 := (take_sum_le hq q.length).1
  rw [List.take_length] at h3
  have := Int.mul_nonneg hk h3
  simp; omega
theorem tot_start (q : List Int) : tot q 0 0 0 = 0 := by simp [tot, part]
theorem cycD_start {q : List Int} (h : 0 < q.length) : cycD q 0 0 = base q := by
  unfold cycD; rw [dif_pos h, cyc_zero]
theorem cycD_eq {q : List Int} {r : Nat} {c : Int} (h : r < q.length) : cycD q r c = ⟨r, q.getD r 0, c⟩ :: ((base q).drop (r + 1) ++ (base q).take r) := by
  unfold cycD; rw [dif_pos h]; simp [cyc, h]
theorem want_all {n : Nat} {m : Mb} (h0 : 0 ≤ m.who) (h : m.who < n) : wantB (List.replicate n true) m = true := by
  unfold wantB
  rw [List.getElem?_eq_getElem (by simp; omega)]
  simp
theorem cycD_who {q : List Int} {r : Nat} {c : Int} : ∀ m ∈ cycD q r c, 0 ≤ m.who := by
  intro m hm
  unfold cycD at hm
  split at hm
  · simp only [cyc, List.mem_cons, List.mem_append] at hm
    have hb : ∀ m ∈ base q, 0 ≤ m.who := by
      intro m hm
      obtain ⟨j, hj, rfl⟩ := List.getElem_of_mem hm
      rw [base_len] at hj
      rw [base_get hj]
      show (0 : Int) ≤ (j : Int)
      omega
    rcases hm with rfl | hm | hm
    · show (0 : Int) ≤ (r : Int); omega
    · exact hb m (List.mem_of_mem_drop hm)
    · exact hb m (List.mem_of_mem_take hm)
  · cases hm
end Go.FairP

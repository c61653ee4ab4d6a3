/-
  The plain side of 'fair', part 3: all want all the time: who has spent what.
-/
import Derived.Test.YtpkemaglokbfiaaFairPlain2
namespace Go.FairP
open Go.Sl
set_option linter.unusedVariables false
def base (q : List Int) : List Mb := q.mapIdx fun i x => ⟨i, x, 0⟩
theorem base_len (q : List Int) : (base q).length = q.length := by simp [base]
theorem base_get {q : List Int} {i : Nat} (h : i < q.length) : (base q)[i]'(by rw [base_len]; exact h) = ⟨i, q[i], 0⟩ := by simp [base]
theorem base_snoc (q : List Int) (x : Int) : base (q ++ [x]) = base q ++ [⟨q.length, x, 0⟩] := by simp [base, List.mapIdx_concat]
theorem base_none (q : List Int) : (base q).findIdx? (isWho q.length) = none := by
  rw [List.findIdx?_eq_none_iff]
  intro m hm
  obtain ⟨j, hj, rfl⟩ := List.getElem_of_mem hm
  rw [base_len] at hj
  rw [base_get hj]
  simp [isWho]
  omega
/-- The order when r is at the head, with c of its credit. -/
def cyc (q : List Int) (r : Nat) (c : Int) (h : r < q.length) : List Mb := ⟨r, q[r], c⟩ :: ((base q).drop (r + 1) ++ (base q).take r)
theorem cyc_len (q : List Int) (r : Nat) (c : Int) (h : r < q.length) : (cyc q r c h).length = q.length := by simp [cyc, base_len]; omega
theorem cyc_zero (q : List Int) (h : 0 < q.length) : cyc q 0 0 h = base q := by
  have h1 : 0 < (base q).length := by rw [base_len]; exact h
  have h2 := List.drop_eq_getElem_cons h1
  rw [base_get h] at h2
  simp only [cyc, List.take_zero, List.append_nil]
  rw [List.drop_zero] at h2
  exact h2.symm
theorem cyc_rest (q : List Int) (r : Nat) (h : r < q.length) : ((base q).drop (r + 1) ++ (base q).take r) ++ [⟨r, q[r], 0⟩] = if h2 : r + 1 < q.length then cyc q (r + 1) 0 h2 else cyc q 0 0 (by omega) := by
  have h1 : r < (base q).length := by rw [base_len]; exact h
  have e : (base q).take r ++ [⟨r, q[r], 0⟩] = (base q).take (r + 1) := by
    rw [List.take_succ_eq_append_getElem h1, base_get h]
  rw [List.append_assoc, e]
  split
  · rename_i h2
    have h3 : r + 1 < (base q).length := by rw [base_len]; exact h2
    rw [List.drop_eq_getElem_cons h3, base_get h2]
    rfl
  · rename_i h2
    rw [cyc_zero, List.drop_of_length_le (by rw [base_len]; omega), List.nil_append, List.take_of_length_le (by rw [base_len]; omega)]
def spOf (q : List Int) (t : Int) (r : Nat) (part : Int) (h : r < q.length) : List Int := (q.take r).map (fun x => (t + 1) * x) ++ (t * q[r] + part) :: (q.drop (r + 1)).map (fun x => t * x)
theorem spOf_len (q : List Int) (t : Int) (r : Nat) (part : Int) (h : r < q.length) : (spOf q t r part h).length = q.length := by simp [spOf]; omega
theorem spOf_get (q : List Int) (t : Int) (r : Nat) (part : Int) (h : r < q.length) : (spOf q t r part h)[r]'(by rw [spOf_len]; exact h) = t * q[r] + part := by
  simp only [spOf]
  rw [List.getElem_append_right (by simp; omega)]
  simp [Nat.min_eq_left (Nat.le_of_lt h)]
theorem spOf_set (q : List Int) (t : Int) (r : Nat) (part u : Int) (h : r < q.length) : (spOf q t r part h).set r (t * q[r] + part + u) = spOf q t r (part + u) h := by
  simp only [spOf]
  rw [List.set_append_right _ _ (by simp; omega)]
  simp [Nat.min_eq_left (Nat.le_of_lt h), Int.add_assoc]
theorem spOf_zero (q : List Int) (t : Int) (h : 0 < q.length) : spOf q t 0 0 h = q.map (fun x => t * x) := by
  cases q with
  | nil => simp at h
  | cons x q => simp [spOf]
theorem spOf_next (q : List Int) (t : Int) (r : Nat) (h : r < q.length) : spOf q t r q[r] h = if h2 : r + 1 < q.length then spOf q t (r + 1) 0 h2 else spOf q (t + 1) 0 0 (by omega) := by
  split
  · rename_i h2
    simp only [spOf]
    rw [List.take_succ_eq_append_getElem h, List.drop_eq_getElem_cons h2]
    simp only [List.map_append, List.map_cons, List.map_nil, List.append_assoc, List.cons_append, List.nil_append, Int.add_mul, Int.one_mul, Int.add_zero]
  · rename_i h2
    rw [spOf_zero]
    have e2 : q.take r ++ [q[r]] = q := by rw [← List.take_succ_eq_append_getElem h, List.take_of_length_le (by omega)]
    have e3 : (q.take r ++ [q[r]]).map (fun x => (t + 1) * x) = q.map (fun x => (t + 1) * x) := by rw [e2]
    rw [← e3]
    simp only [spOf, List.drop_of_length_le (show q.length ≤ r + 1 by omega), List.map_append, List.map_cons, List.map_nil, Int.add_mul, Int.one_mul]
theorem sum_map (t : Int) (q : List Int) : (q.map (fun x => t * x)).sum = t * q.sum := by
  induction q with
  | nil => simp
  | cons x q ih => simp [ih, Int.mul_add]
theorem spOf_sum (q : List Int) (t : Int) (r : Nat) (part : Int) (h : r < q.length) : (spOf q t r part h).sum = t * q.sum + (q.take r).sum + part := by
  simp only [spOf, List.sum_append, List.sum_cons, sum_map]
  have e : q.sum = (q.take r).sum + (q[r] + (q.drop (r + 1)).sum) := by
    conv => lhs; rw [← List.take_append_drop r q, List.sum_append, List.drop_eq_getElem_cons h, List.sum_cons]
  rw [e]
  simp only [Int.mul_add, Int.add_mul, Int.one_mul]
  omega
end Go.FairP

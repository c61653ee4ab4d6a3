/-
  The plain side of 'fair', part 2: who is next, spending.
-/
import Derived.Test.YtpkemaglokbfiaaFairPlain
namespace Go.FairP
open Go.Sl
set_option linter.unusedVariables false
/-- The list after the first k gave up their turns. -/
def rotL (l : List Mb) (k : Nat) : List Mb := l.drop k ++ (l.take k).map zero
theorem rotL_zero (l : List Mb) : rotL l 0 = l := by simp [rotL]
theorem rotL_len (l : List Mb) (k : Nat) : (rotL l k).length = l.length := by simp [rotL]; omega
theorem rotL_cons {l : List Mb} {k : Nat} (h : k < l.length) : rotL l k = l[k] :: (l.drop (k + 1) ++ (l.take k).map zero) := by
  simp only [rotL]
  rw [List.drop_eq_getElem_cons h]
  rfl
theorem rotL_step {l : List Mb} {k : Nat} (h : k < l.length) : (l.drop (k + 1) ++ (l.take k).map zero) ++ [zero l[k]] = rotL l (k + 1) := by
  simp only [rotL, List.append_assoc, List.take_succ_eq_append_getElem h, List.map_append, List.map_cons, List.map_nil]
theorem rotL_who {l : List Mb} {k : Nat} {m : Mb} (h : m ∈ rotL l k) : ∃ m' ∈ l, m.who = m'.who ∧ m.q = m'.q := by
  simp only [rotL, List.mem_append, List.mem_map] at h
  rcases h with h | ⟨m', h, rfl⟩
  · exact ⟨m, List.mem_of_mem_drop h, rfl, rfl⟩
  · exact ⟨m', List.mem_of_mem_take h, rfl, rfl⟩
/-- Its credit, where it had none. -/
def full (m : Mb) : Mb := if m.c = 0 then { m with c := m.q } else m
def fnext (l : List Mb) (i : Nat) : List Mb := match rotL l i with
  | [] => []
  | m :: r => full m :: r
theorem fnext_eq {l : List Mb} {i : Nat} (h : i < l.length) : fnext l i = full l[i] :: (l.drop (i + 1) ++ (l.take i).map zero) := by
  simp only [fnext, rotL_cons h]
theorem full_who (m : Mb) : (full m).who = m.who := by unfold full; split <;> rfl
theorem full_q (m : Mb) : (full m).q = m.q := by unfold full; split <;> rfl
theorem encs_cons (m : Mb) (l : List Mb) : (m :: l).flatMap enc = .int .i64 m.who :: .int .i64 m.q :: .int .i64 m.c :: l.flatMap enc := rfl
theorem find_lt {l : List Mb} {p : Mb → Bool} {i : Nat} (h : l.findIdx? p = some i) : ∃ hl : i < l.length, p l[i] = true ∧ ∀ j (hj : j < i), p (l[j]'(by omega)) = false := by
  rw [List.findIdx?_eq_some_iff_getElem] at h
  obtain ⟨h1, h2, h3⟩ := h
  exact ⟨h1, h2, fun j hj => by simpa using h3 j hj⟩
/-- A weight that is none. -/
def Nq (x : Nat) : Prop := FloatKind.f64.format.order x x ≠ some .eq ∨ (FloatKind.f64.format.order x leastB == some .lt) = true ∨ (FloatKind.f64.format.order x mostB == some .gt) = true
theorem idx_head {m : Mb} {r : List Mb} {p : Mb → Bool} (h : p m = true) : (m :: r).findIdx? p = some 0 := by simp [List.findIdx?_cons, h]
end Go.FairP

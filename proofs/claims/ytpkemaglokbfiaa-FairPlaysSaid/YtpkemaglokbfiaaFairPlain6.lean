/-
  The plain side of 'fair', part 6: who wants all the time is next within a turn of each other one.
-/
import Derived.Test.YtpkemaglokbfiaaFairPlain5
namespace Go.FairP
open Go.Sl
set_option linter.unusedVariables false
structure Tn (ws : List Int) (l : List Mb) (since : Nat) : Prop where
  len : l.length = ws.length
  mem : ∀ m ∈ l, 0 ≤ m.who ∧ m.who < ws.length ∧ m.q = 1 + ws.getD m.who.toNat 0 ∧ m.c = 0
  zer : ∃ p, ∃ h : p < l.length, l[p].who = 0 ∧ since + p + 1 ≤ ws.length
theorem Tn.start {ws : List Int} (h : 0 < ws.length) : Tn ws (base (qs ws)) 0 := by
  refine ⟨by rw [base_len, qs_len], ?_, 0, by rw [base_len, qs_len]; exact h, ?_, by omega⟩
  · intro m hm
    obtain ⟨j, hj, rfl⟩ := List.getElem_of_mem hm
    have hj2 : j < ws.length := by rw [base_len, qs_len] at hj; exact hj
    rw [base_get (by rw [qs_len]; exact hj2), qs_get hj2]
    refine ⟨by show (0 : Int) ≤ (j : Int); omega, by show (j : Int) < _; omega, ?_, rfl⟩
    show 1 + ws[j] = 1 + ws.getD ((j : Int)).toNat 0
    simp [hj2]
  · rw [base_get (by rw [qs_len]; exact h)]; rfl
theorem Tn.since {ws : List Int} {l : List Mb} {s : Nat} (h : Tn ws l s) : s < ws.length := by
  obtain ⟨_, _, p, _, _, h4⟩ := h
  omega
theorem zero_id {m : Mb} (h : m.c = 0) : zero m = m := by cases m; simp [zero] at h ⊢; exact h.symm
theorem zero_full (m : Mb) : zero (full m) = zero m := by unfold full; split <;> rfl
theorem Tn.step {ws : List Int} {l : List Mb} {s i : Nat} (h : Tn ws l s) (hi : i < l.length) (hf : ∀ p (hp : p < l.length), l[p].who = 0 → i ≤ p) :
    Tn ws ((l.drop (i + 1) ++ (l.take i).map zero) ++ [zero (full l[i])]) (if l[i].who = 0 then 0 else s + 1) ∧ (if l[i].who = 0 then 0 else s + 1) < ws.length := by
  obtain ⟨h1, h2, p, hp, h3, h4⟩ := h
  have hz : (l.take i).map zero = l.take i := by
    have e : (l.take i).map zero = (l.take i).map id := List.map_congr_left (fun m hm => zero_id (h2 m (List.mem_of_mem_take hm)).2.2.2)
    rw [e, List.map_id]
  have hzi : zero (full l[i]) = l[i] := by rw [zero_full, zero_id (h2 _ (List.getElem_mem _)).2.2.2]
  rw [hz, hzi]
  have hm : ∀ m ∈ (l.drop (i + 1) ++ l.take i) ++ [l[i]], m ∈ l := by
    intro m hm
    simp only [List.mem_append, List.mem_singleton] at hm
    rcases hm with (hm | hm) | rfl
    · exact List.mem_of_mem_drop hm
    · exact List.mem_of_mem_take hm
    · exact List.getElem_mem _
  have hip := hf p hp h3
  have hlen : ((l.drop (i + 1) ++ l.take i) ++ [l[i]]).length = l.length := by simp; omega
  by_cases hw : l[i].who = 0
  · rw [if_pos hw]
    refine ⟨⟨by rw [hlen, h1], fun m hm' => h2 m (hm m hm'), l.length - 1, by rw [hlen]; omega, ?_, by omega⟩, by omega⟩
    rw [List.getElem_append_right (by simp; omega)]
    simpa using hw
  · rw [if_neg hw]
    have hne : i ≠ p := by intro e; subst e; exact hw h3
    refine ⟨⟨by rw [hlen, h1], fun m hm' => h2 m (hm m hm'), p - (i + 1), by rw [hlen]; omega, ?_, by omega⟩, by omega⟩
    rw [List.getElem_append_left (by simp; omega), List.getElem_append_left (by simp; omega), List.getElem_drop]
    simp only [show i + 1 + (p - (i + 1)) = p by omega]
    exact h3
theorem want_get {wl : List Bool} {m : Mb} (h : wantB wl m = true) : m.who.toNat < wl.length ∧ wl.getD m.who.toNat false = true := by
  unfold wantB at h
  split at h
  · rename_i b e
    subst h
    have := (List.getElem?_eq_some_iff.1 e).1
    exact ⟨this, by simp [List.getD_eq_getElem?_getD, e]⟩
  · cases h
theorem want_zero {wl : List Bool} {m : Mb} (h : wl.getD 0 false = true) (hm : m.who = 0) : wantB wl m = true := by
  unfold wantB
  rw [hm]
  cases wl with
  | nil => simp at h
  | cons b wl => simpa using h
/-- There is a first one who wants. -/
theorem Tn.find {ws : List Int} {l : List Mb} {s : Nat} {wl : List Bool} (h : Tn ws l s) (hw : wl.getD 0 false = true) : ∃ i, l.findIdx? (wantB wl) = some i := by
  obtain ⟨h1, h2, p, hp, h3, h4⟩ := h
  cases e : l.findIdx? (wantB wl) with
  | some i => exact ⟨i, rfl⟩
  | none =>
    rw [List.findIdx?_eq_none_iff] at e
    have := e _ (List.getElem_mem hp)
    rw [want_zero hw h3] at this
    cases this
end Go.FairP

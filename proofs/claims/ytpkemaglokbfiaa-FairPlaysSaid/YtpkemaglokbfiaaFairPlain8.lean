/-
  What each call of Fair answers, and what it leaves: one function each.
-/
import Derived.Test.YtpkemaglokbfiaaFairPlain7
import Derived.Test.YtpkemaglokbfiaaFairFloat
namespace Go.FairP
open Go.Sl
set_option linter.unusedVariables false
def jBad (who : Int) (x : Nat) : Prop := who < 0 ∨ 8 ≤ who ∨ ¬ Wt x
instance (who : Int) (x : Nat) : Decidable (jBad who x) := by unfold jBad; infer_instance
def isIn (l : List Mb) (who : Int) : Bool := (l.findIdx? (isWho who)).isSome
def jRes (l : List Mb) (who : Int) (x : Nat) : Int := if jBad who x then 1 else if isIn l who = true then 12 else 0
def jList (l : List Mb) (who : Int) (x : Nat) : List Mb := if jBad who x then l else if isIn l who = true then l else l ++ [⟨who, quan x, 0⟩]
def lRes (l : List Mb) (who : Int) : Bool := isIn l who
def lList (l : List Mb) (who : Int) : List Mb := match l.findIdx? (isWho who) with | some i => l.eraseIdx i | none => l
def cRes (l : List Mb) (who : Int) : Int := match l.find? (isWho who) with | some m => m.c | none => 0
def nWho (l : List Mb) (ws : List Bool) : Int := match l.find? (wantB ws) with | some m => m.who | none => 0
def nCred (l : List Mb) (ws : List Bool) : Int := match l.find? (wantB ws) with | some m => (full m).c | none => 0
def nOk (l : List Mb) (ws : List Bool) : Bool := (l.findIdx? (wantB ws)).isSome
def nList (l : List Mb) (ws : List Bool) : List Mb := match l.findIdx? (wantB ws) with | some i => fnext l i | none => l
def sOk (l : List Mb) (who n : Int) : Bool := match l with | [] => false | m :: _ => decide (m.who = who ∧ 1 ≤ n ∧ n ≤ m.c)
def sList (l : List Mb) (who n : Int) : List Mb := if sOk l who n = true then (match l with | [] => [] | m :: r => if n < m.c then spentM m n :: r else r ++ [zero m]) else l
where spentM (m : Mb) (n : Int) : Mb := { m with c := m.c - n }
theorem find_some {l : List Mb} {p : Mb → Bool} {i : Nat} (h : l.findIdx? p = some i) : l.find? p = some (l[i]'(findIdx_lt h)) := by
  obtain ⟨h1, h2, h3⟩ := find_lt h
  rw [List.find?_eq_some_iff_getElem]
  exact ⟨h2, i, h1, rfl, fun j hj => by simp [h3 j hj]⟩
theorem find_none {l : List Mb} {p : Mb → Bool} (h : l.findIdx? p = none) : l.find? p = none := by
  rw [List.findIdx?_eq_none_iff] at h
  rw [List.find?_eq_none]
  intro m hm
  simp [h m hm]
/-- What holds of those who are in. -/
structure Ok (l : List Mb) (n : Nat) : Prop where
  len : l.length ≤ n
  mem : ∀ m ∈ l, 0 ≤ m.who ∧ m.who < 8 ∧ 1 ≤ m.q ∧ m.q ≤ 1024 ∧ 0 ≤ m.c ∧ m.c ≤ 1024
theorem Ok.mono {l : List Mb} {n m : Nat} (h : Ok l n) (hn : n ≤ m) : Ok l m := ⟨Nat.le_trans h.len hn, h.mem⟩
theorem Ok.join {l : List Mb} {n : Nat} (h : Ok l n) (who : Int) (x : Nat) : Ok (jList l who x) (n + 1) := by
  unfold jList
  split
  · exact h.mono (by omega)
  · rename_i hb
    unfold jBad at hb
    split
    · exact h.mono (by omega)
    · refine ⟨by simp; exact h.len, fun m hm => ?_⟩
      simp only [List.mem_append, List.mem_singleton] at hm
      rcases hm with hm | rfl
      · exact h.mem m hm
      · have hw : Wt x := Classical.byContradiction (fun hn => hb (.inr (.inr hn)))
        have hq := hw.qb
        have h0 : ¬ who < 0 := fun hn => hb (.inl hn)
        have h1 : ¬ 8 ≤ who := fun hn => hb (.inr (.inl hn))
        show 0 ≤ who ∧ who < 8 ∧ 1 ≤ (quan x : Int) ∧ (quan x : Int) ≤ 1024 ∧ (0 : Int) ≤ 0 ∧ (0 : Int) ≤ 1024
        omega
theorem Ok.leave {l : List Mb} {n : Nat} (h : Ok l n) (who : Int) : Ok (lList l who) n := by
  unfold lList
  split
  · exact ⟨by have := h.len; have := List.length_eraseIdx_le l (by assumption); omega, fun m hm => h.mem m (List.mem_of_mem_eraseIdx hm)⟩
  · exact h
theorem Ok.zero {l : List Mb} {n : Nat} (h : Ok l n) {m : Mb} (hm : m ∈ l) : 0 ≤ (zero m).who ∧ (zero m).who < 8 ∧ 1 ≤ (zero m).q ∧ (zero m).q ≤ 1024 ∧ 0 ≤ (zero m).c ∧ (zero m).c ≤ 1024 := by
  have := h.mem m hm
  simp only [FairP.zero]
  omega
theorem Ok.full {l : List Mb} {n : Nat} (h : Ok l n) {m : Mb} (hm : m ∈ l) : 0 ≤ (full m).who ∧ (full m).who < 8 ∧ 1 ≤ (full m).q ∧ (full m).q ≤ 1024 ∧ 0 ≤ (full m).c ∧ (full m).c ≤ 1024 := by
  have := h.mem m hm
  unfold FairP.full
  split
  · simp only []; omega
  · exact this
theorem Ok.next {l : List Mb} {n : Nat} (h : Ok l n) (ws : List Bool) : Ok (nList l ws) n := by
  unfold nList
  split
  · rename_i i hi
    have hlt := findIdx_lt hi
    rw [fnext_eq hlt]
    refine ⟨by have := h.len; simp; omega, fun m hm => ?_⟩
    simp only [List.mem_cons, List.mem_append, List.mem_map] at hm
    rcases hm with rfl | hm | ⟨m', hm, rfl⟩
    · exact h.full (List.getElem_mem hlt)
    · exact h.mem m (List.mem_of_mem_drop hm)
    · exact h.zero (List.mem_of_mem_take hm)
  · exact h
theorem Ok.spend {l : List Mb} {n : Nat} (h : Ok l n) (who k : Int) : Ok (sList l who k) n := by
  unfold sList
  split
  · rename_i hs
    cases l with
    | nil => exact h
    | cons m r =>
      have hm := h.mem m (by simp)
      simp only [sOk, decide_eq_true_eq] at hs
      have hl := h.len
      simp only [List.length_cons] at hl
      show Ok (if k < m.c then _ else _) n
      split
      · refine ⟨by simp; omega, fun x hx => ?_⟩
        simp only [List.mem_cons] at hx
        rcases hx with rfl | hx
        · simp only [sList.spentM]; omega
        · exact h.mem x (by simp [hx])
      · refine ⟨by simp; omega, fun x hx => ?_⟩
        simp only [List.mem_append, List.mem_singleton] at hx
        rcases hx with hx | rfl
        · exact h.mem x (by simp [hx])
        · exact h.zero (by simp)
  · exact h
end Go.FairP
namespace Go.FairP
open Go.Sl
set_option linter.unusedVariables false
theorem any_succ {l : List Mb} {p : Mb → Bool} {k : Nat} (h : k < l.length) : (l.take (k + 1)).any p = ((l.take k).any p || p l[k]) := by
  rw [List.take_succ_eq_append_getElem h, List.any_append]
  simp only [List.any_cons, List.any_nil, Bool.or_false]
theorem want_in {ws : List Bool} {m : Mb} (h0 : 0 ≤ m.who) (h : m.who < ws.length) : wantB ws m = (ecB 4).g ws m.who := by
  unfold wantB Ec.g
  rw [List.getElem?_eq_getElem (by omega)]
  simp [show m.who.toNat < ws.length by omega]
theorem want_out {ws : List Bool} {m : Mb} (h0 : 0 ≤ m.who) (h : ¬ m.who < ws.length) : wantB ws m = false := by
  unfold wantB
  rw [List.getElem?_eq_none (by omega)]
theorem any_none {l : List Mb} {p : Mb → Bool} (h : (l.take l.length).any p = false) : l.findIdx? p = none := by
  rw [List.take_length] at h
  rw [List.findIdx?_eq_none_iff]
  intro m hm
  simpa using (List.any_eq_false.1 h) m hm
theorem any_some {l : List Mb} {p : Mb → Bool} (h : (l.take l.length).any p = true) : ∃ i, l.findIdx? p = some i := by
  rw [List.take_length] at h
  cases e : l.findIdx? p with
  | some i => exact ⟨i, rfl⟩
  | none =>
    rw [List.findIdx?_eq_none_iff] at e
    obtain ⟨m, hm, hp⟩ := List.any_eq_true.1 h
    rw [e m hm] at hp
    cases hp
theorem rot_head {l : List Mb} {k : Nat} (h : k < l.length) (f : Mb → Int) : I3.g ((rotL l k).map f) 0 = f l[k] := by
  rw [rotL_cons h]; rfl
theorem fnext_map {l : List Mb} {i : Nat} (h : i < l.length) : (fnext l i).map Mb.who = (rotL l i).map Mb.who ∧ (fnext l i).map Mb.q = (rotL l i).map Mb.q ∧ (fnext l i).map Mb.c = ((rotL l i).map Mb.c).set 0 (full l[i]).c := by
  rw [fnext_eq h, rotL_cons h]
  simp [full_who, full_q]
theorem full_zero {m : Mb} (h : m.c = 0) : (full m).c = m.q := by unfold full; rw [if_pos h]
theorem full_same {m : Mb} (h : ¬ m.c = 0) : (full m).c = m.c := by unfold full; rw [if_neg h]
theorem fnext_len (l : List Mb) {i : Nat} (h : i < l.length) : (fnext l i).length = l.length := by rw [fnext_eq h]; simp; omega
theorem next_lt {l : List Mb} {ws : List Bool} {i k : Nat} (hi : l.findIdx? (wantB ws) = some i) (hki : k ≤ i) (hkl : k < l.length) (hw : wantB ws l[k] = false) : k < i := by
  obtain ⟨h1, h2, h3⟩ := find_lt hi
  rcases Nat.lt_or_ge k i with h | h
  · exact h
  · obtain rfl : k = i := by omega
    rw [h2] at hw; cases hw
theorem next_eq {l : List Mb} {ws : List Bool} {i k : Nat} (hi : l.findIdx? (wantB ws) = some i) (hki : k ≤ i) (hkl : k < l.length) (hw : wantB ws l[k] = true) : k = i := by
  obtain ⟨h1, h2, h3⟩ := find_lt hi
  rcases Nat.lt_or_ge k i with h | h
  · rw [h3 k h] at hw; cases hw
  · omega
theorem g_set0 {l : List Int} {x : Int} (h : 0 < l.length) : I3.g (l.set (0 : Int).toNat x) 0 = x := by
  cases l with
  | nil => simp at h
  | cons y l => rfl
theorem fnext_c0 {l : List Mb} {i : Nat} (h : i < l.length) (h0 : l[i].c = 0) : ((rotL l i).map Mb.c).set (0 : Int).toNat l[i].q = (fnext l i).map Mb.c := by
  rw [(fnext_map h).2.2, full_zero h0]; rfl
theorem fnext_c1 {l : List Mb} {i : Nat} (h : i < l.length) (h0 : ¬ l[i].c = 0) : (rotL l i).map Mb.c = (fnext l i).map Mb.c := by
  rw [(fnext_map h).2.2, full_same h0, rotL_cons h]; rfl
theorem sp_no {m : Mb} {r : List Mb} {who n : Int} (h : ¬ (m.who = who ∧ 1 ≤ n ∧ n ≤ m.c)) : sOk (m :: r) who n = false ∧ sList (m :: r) who n = m :: r := by
  have hs : sOk (m :: r) who n = false := by simp only [sOk, decide_eq_false h]
  exact ⟨hs, by unfold sList; rw [hs, if_neg Bool.false_ne_true]⟩
theorem sp_some {m : Mb} {r : List Mb} {who n : Int} (h1 : m.who = who) (h2 : 1 ≤ n) (h3 : n < m.c) : sOk (m :: r) who n = true ∧ sList (m :: r) who n = sList.spentM m n :: r := by
  have hs : sOk (m :: r) who n = true := by simp only [sOk]; exact decide_eq_true ⟨h1, h2, by omega⟩
  refine ⟨hs, ?_⟩
  unfold sList
  rw [hs, if_pos rfl]
  show (if n < m.c then _ else _) = _
  rw [if_pos h3]
theorem sp_all {m : Mb} {r : List Mb} {who n : Int} (h1 : m.who = who) (h2 : 1 ≤ n) (h3 : n = m.c) : sOk (m :: r) who n = true ∧ sList (m :: r) who n = r ++ [zero m] := by
  have hs : sOk (m :: r) who n = true := by simp only [sOk]; exact decide_eq_true ⟨h1, h2, by omega⟩
  refine ⟨hs, ?_⟩
  unfold sList
  rw [hs, if_pos rfl]
  show (if n < m.c then _ else _) = _
  rw [if_neg (by omega)]
theorem g_head (m : Mb) (r : List Mb) (f : Mb → Int) : I3.g ((m :: r).map f) 0 = f m := rfl
theorem g_set_head (m : Mb) (r : List Mb) (f : Mb → Int) (x : Int) : I3.g (((m :: r).map f).set (0 : Int).toNat x) 0 = x := rfl
/-- Who is in and stands below i wants nothing; so do the first k, if they are i. -/
def Cl (ms : List Mb) (wl : List Bool) (i k : Nat) : Prop := (∀ x ∈ ms, x.who < i → wantB wl x = false) ∧ (∀ x ∈ ms.take k, x.who = i → wantB wl x = false)
theorem want_set {wl : List Bool} {x : Mb} {i : Nat} (h : wantB wl x = false ∨ x.who = i) : wantB (wl.set i false) x = false := by
  unfold wantB at h ⊢
  rw [List.getElem?_set]
  by_cases e : i = x.who.toNat
  · rw [if_pos e]
    by_cases h2 : i < wl.length
    · rw [if_pos h2]
    · rw [if_neg h2]
  · rw [if_neg e]
    rcases h with h | h
    · exact h
    · omega
theorem Cl.start {ms : List Mb} {wl : List Bool} (h : ∀ m ∈ ms, 0 ≤ m.who) : Cl ms wl 0 0 := ⟨fun x hx hl => by have := h x hx; omega, fun x hx => by simp at hx⟩
theorem Cl.set {ms : List Mb} {wl : List Bool} {i k : Nat} (h : Cl ms wl i k) (hk : k < ms.length) : Cl ms (wl.set i false) i (k + 1) := by
  obtain ⟨h1, h2⟩ := h
  exact ⟨fun x hx hl => want_set (.inl (h1 x hx hl)), fun x hx hl => want_set (.inr hl)⟩
theorem Cl.skip {ms : List Mb} {wl : List Bool} {i k : Nat} (h : Cl ms wl i k) (hk : k < ms.length) (hn : ¬ ms[k].who = i) : Cl ms wl i (k + 1) := by
  obtain ⟨h1, h2⟩ := h
  refine ⟨h1, fun x hx hl => ?_⟩
  rw [List.take_succ_eq_append_getElem hk] at hx
  simp only [List.mem_append, List.mem_singleton] at hx
  rcases hx with hx | rfl
  · exact h2 x hx hl
  · exact absurd hl hn
theorem Cl.next {ms : List Mb} {wl : List Bool} {i k : Nat} (h : Cl ms wl i k) (hk : ms.length ≤ k) : Cl ms wl (i + 1) 0 := by
  obtain ⟨h1, h2⟩ := h
  rw [List.take_of_length_le hk] at h2
  refine ⟨fun x hx hl => ?_, fun x hx => by simp at hx⟩
  rcases Int.lt_or_le x.who i with h3 | h3
  · exact h1 x hx h3
  · exact h2 x hx (by omega)
theorem Cl.fin {ms : List Mb} {wl : List Bool} {i : Nat} (h : Cl ms wl i 0) (hi : wl.length ≤ i) (h0 : ∀ m ∈ ms, 0 ≤ m.who) : ms.findIdx? (wantB wl) = none := by
  rw [List.findIdx?_eq_none_iff]
  intro m hm
  rcases Int.lt_or_le m.who i with h3 | h3
  · exact h.1 m hm h3
  · exact want_out (h0 m hm) (by omega)
end Go.FairP

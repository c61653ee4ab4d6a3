/-
  Sl, part 6: regions that draw their order and whose values are known: the list of values 'V', the lists of assertions 'Ls' along the chain.
-/
import Derived.Test.YtgpfhkbolhpoiaaSl5
namespace Go.Sl
open Go.RowKit (Below)
set_option linter.unusedVariables false
set_option linter.unusedSimpArgs false

def envV (l : List Oper) (E0 : Env) (p : Par) (V : List Value) : Env :=
  (p.deps.filterMap fun j => match dstIn l j with | some t => (match V[j]? with | some v => some (t, v) | none => none) | none => none) ++ p.slots.filterMap fun s => match E0.get s with | some v => some (s, v) | none => none
def finV (l : List Oper) (V : List Value) : Nat → Env → Env
  | 0, E => E
  | i + 1, E => match dstIn l i with | some t => (match V[i]? with | some v => (t, v) :: finV l V i E | none => finV l V i E) | none => finV l V i E

section
variable {C : Ctx} {E0 : Env} {Q : QT} {L : List HProp}

/-- The value of operation j, the values so far standing last first. -/
def envA (l : List Oper) (E0 : Env) (p : Par) (i : Nat) (acc : List Value) : Env :=
  (p.deps.filterMap fun j => match dstIn l j with | some t => (match acc[i - 1 - j]? with | some v => some (t, v) | none => none) | none => none) ++ p.slots.filterMap fun s => match E0.get s with | some v => some (s, v) | none => none
def finA (l : List Oper) (n : Nat) (acc : List Value) : Nat → Env → Env
  | 0, E => E
  | i + 1, E => match dstIn l i with | some t => (match acc[n - 1 - i]? with | some v => (t, v) :: finA l n acc i E | none => finA l n acc i E) | none => finA l n acc i E

/-- What is owed: operation by operation, in the order of the text; 'K' is asked behind the last one. -/
def OwA (C : Ctx) (l : List Oper) (E0 : Env) (ch : List Nat) (Ls : List (List HProp)) : Nat → List Value → List Oper → List Par → (List Value → Prop) → Prop
  | _, acc, [], [], K => K acc
  | i, acc, o :: os, p :: ps, K => ∃ v, (∀ k L, p.lo ≤ k → k ≤ p.hi → Ls[k]? = some L → Step C l.toArray o (envA l E0 p i acc) L (fun v' L' => v' = v ∧ (if mem i ch then ∃ L'', Ls[k + 1]? = some L'' ∧ L'.Perm L'' else L'.Perm L))) ∧ OwA C l E0 ch Ls (i + 1) (v :: acc) os ps K
  | _, _, _, _, _ => False

section
variable {l : List Oper} {ch : List Nat} {Ls : List (List HProp)} {i : Nat} {acc : List Value} {o : Oper} {os : List Oper} {ps : List Par} {v : Value} {K : List Value → Prop}
theorem owed_nil (h : K acc) : OwA C l E0 ch Ls i acc [] [] K := h
/-- An operation that only reads the frame. -/
theorem owed_pure {p : Par} (E : Env) (hE : envA l E0 p i acc = E) (hn : mem i ch = false) (h : ∀ L, Step C l.toArray o E L (fun v' L' => v' = v ∧ L' = L)) (r : OwA C l E0 ch Ls (i + 1) (v :: acc) os ps K) : OwA C l E0 ch Ls i acc (o :: os) (p :: ps) K :=
  ⟨v, fun k L _ _ _ a w K Q ha hi hK => by
    rw [hE] at ha
    exact h L a w K Q ha hi (fun v' L' w' ⟨e1, e2⟩ hi' => hK v' L' w' ⟨e1, by rw [if_neg (by simp [hn])]; rw [e2]⟩ hi'), r⟩
theorem owed_read {p : Par} (E : Env) (hE : envA l E0 p i acc = E) (hn : mem i ch = false)
    (h : ∀ k L, p.lo ≤ k → k ≤ p.hi → Ls[k]? = some L → Step C l.toArray o E L (fun v' L' => v' = v ∧ L' = L)) (r : OwA C l E0 ch Ls (i + 1) (v :: acc) os ps K) : OwA C l E0 ch Ls i acc (o :: os) (p :: ps) K :=
  ⟨v, fun k L h1 h2 h3 a w K Q ha hi hK => by
    rw [hE] at ha
    exact h k L h1 h2 h3 a w K Q ha hi (fun v' L' w' ⟨e1, e2⟩ hi' => hK v' L' w' ⟨e1, by rw [if_neg (by simp [hn])]; rw [e2]⟩ hi'), r⟩
/-- An operation that reads memory while the chain stands at one link. -/
theorem owed_read1 {anc deps slots : List Nat} {n : Nat} {L : List HProp} (E : Env) (hE : envA l E0 ⟨anc, deps, slots, n, n⟩ i acc = E) (hn : mem i ch = false) (hL : Ls[n]? = some L)
    (h : Step C l.toArray o E L (fun v' L' => v' = v ∧ L' = L)) (r : OwA C l E0 ch Ls (i + 1) (v :: acc) os ps K) : OwA C l E0 ch Ls i acc (o :: os) (⟨anc, deps, slots, n, n⟩ :: ps) K :=
  owed_read E hE hn (fun k L' h1 h2 h3 => by
    have h1 : n ≤ k := h1
    have h2 : k ≤ n := h2
    obtain rfl : k = n := by omega
    rw [hL] at h3
    cases h3
    exact h) r
theorem owed_read2 {anc deps slots : List Nat} {n : Nat} {L L1 : List HProp} (E : Env) (hE : envA l E0 ⟨anc, deps, slots, n, n + 1⟩ i acc = E) (hn : mem i ch = false) (hL : Ls[n]? = some L) (hL1 : Ls[n + 1]? = some L1)
    (h : Step C l.toArray o E L (fun v' L' => v' = v ∧ L' = L)) (h1 : Step C l.toArray o E L1 (fun v' L' => v' = v ∧ L' = L1)) (r : OwA C l E0 ch Ls (i + 1) (v :: acc) os ps K) : OwA C l E0 ch Ls i acc (o :: os) (⟨anc, deps, slots, n, n + 1⟩ :: ps) K :=
  owed_read E hE hn (fun k L' h2 h3 h4 => by
    have h2 : n ≤ k := h2
    have h3 : k ≤ n + 1 := h3
    rcases (show k = n ∨ k = n + 1 by omega) with rfl | rfl
    · rw [hL] at h4; cases h4; exact h
    · rw [hL1] at h4; cases h4; exact h1) r
/-- A link of the chain. -/
theorem owed_link {anc deps slots : List Nat} {n : Nat} {L L1 : List HProp} (E : Env) (hE : envA l E0 ⟨anc, deps, slots, n, n⟩ i acc = E) (hn : mem i ch = true) (hL : Ls[n]? = some L) (hL1 : Ls[n + 1]? = some L1)
    (h : Step C l.toArray o E L (fun v' L' => v' = v ∧ L'.Perm L1)) (r : OwA C l E0 ch Ls (i + 1) (v :: acc) os ps K) : OwA C l E0 ch Ls i acc (o :: os) (⟨anc, deps, slots, n, n⟩ :: ps) K :=
  ⟨v, fun k L' h1 h2 h3 a w K Q ha hi hK => by
    have h1 : n ≤ k := h1
    have h2 : k ≤ n := h2
    obtain rfl : k = n := by omega
    rw [hL] at h3
    cases h3
    rw [hE] at ha
    exact h a w K Q ha hi (fun v' L' w' ⟨e1, e2⟩ hi' => hK v' L' w' ⟨e1, by rw [if_pos hn]; exact ⟨L1, hL1, e2⟩⟩ hi'), r⟩
end
theorem OwA.get {l : List Oper} {ch : List Nat} {Ls : List (List HProp)} {K : List Value → Prop} : ∀ {i : Nat} {acc : List Value} {os : List Oper} {ps : List Par}, OwA C l E0 ch Ls i acc os ps K → acc.length = i → (∀ (j : Nat) (p : Par), ps[j]? = some p → ∀ d ∈ p.deps, d < i + j) →
    ∃ vs : List Value, vs.length = os.length ∧ K (vs.reverse ++ acc) ∧ ∀ j o p v, os[j]? = some o → ps[j]? = some p → vs[j]? = some v → (∀ k L, p.lo ≤ k → k ≤ p.hi → Ls[k]? = some L → Step C l.toArray o (envV l E0 p (acc.reverse ++ vs)) L (fun v' L' => v' = v ∧ (if mem (i + j) ch then ∃ L'', Ls[k + 1]? = some L'' ∧ L'.Perm L'' else L'.Perm L)))
  | i, acc, [], [], h, _, _ => ⟨[], rfl, h, fun j o p v h => by simp at h⟩
  | i, acc, o :: os, p :: ps, ⟨v, h1, h2⟩, hacc, hd => by
    obtain ⟨vs, e1, e2, h3⟩ := OwA.get h2 (by simp [hacc]) (fun j p hp d hdd => by have := hd (j + 1) p (by simpa using hp) d hdd; omega)
    refine ⟨v :: vs, by simp [e1], by simpa using e2, fun j o' p' v' ho hp hv => ?_⟩
    cases j with
    | zero =>
      simp at ho hp hv
      subst ho; subst hp; subst hv
      have henv : envV l E0 p (acc.reverse ++ v :: vs) = envA l E0 p i acc := by
        unfold envV envA
        congr 1
        have hd0 := hd 0 p (by simp)
        clear h1 h2 h3
        revert hd0
        generalize p.deps = ds
        intro hd0
        induction ds with
        | nil => rfl
        | cons d ds ih =>
          have hlt := hd0 d (by simp)
          have hget : (acc.reverse ++ v :: vs)[d]? = acc[i - 1 - d]? := by
            rw [List.getElem?_append_left (by simp; omega), List.getElem?_reverse (by omega), hacc]
          simp only [List.filterMap_cons, hget]
          rw [ih (fun d hd => hd0 d (by simp [hd]))]
      rw [henv]
      simpa using h1
    | succ j =>
      have := h3 j o' p' v' (by simpa using ho) (by simpa using hp) (by simpa using hv)
      rw [show i + (j + 1) = i + 1 + j by omega]
      simpa using this
  | i, acc, [], p :: ps, h, _, _ => h.elim
  | i, acc, o :: os, [], h, _, _ => h.elim
theorem finV_eq {l : List Oper} {V : List Value} {y : Nat → Value} (h : ∀ i, i < l.length → V[i]? = some (y i)) : ∀ n, n ≤ l.length → finE l y n E0 = finV l V n E0
  | 0, _ => rfl
  | n + 1, hn => by
    simp only [finE, finV]
    rw [finV_eq h n (by omega), h n (by omega)]
    cases dstIn l n <;> rfl
theorem finA_eq {l : List Oper} {V : List Value} (hV : V.length = l.length) : ∀ n, n ≤ l.length → finV l V n E0 = finA l l.length V.reverse n E0
  | 0, _ => rfl
  | n + 1, hn => by
    simp only [finV, finA]
    rw [finA_eq hV n (by omega), List.getElem?_reverse (by omega), hV, show l.length - 1 - (l.length - 1 - n) = n by omega]
theorem w_chain {l : List Oper} {id : Nat} {Ls : List (List HProp)} (ps : List Par) (ch : List Nat) (hm : C.P.follows .mixedOrders = true) (hB : regB C l ps ch = true) (hps : ps.length = l.length)
    (hl : Ls.length = ch.length + 1) (h0 : Ls[0]? = some L) {L' : List HProp} (hL : Ls[ch.length]? = some L') (how : OwA C l E0 ch Ls 0 [] l ps (fun acc => Q .normal (finA l l.length acc l.length E0) L')) (hX : ∀ ch E L, C.X ch L → Q (.panic ch) E L := by exact fun _ _ _ h => h) : Wp C (.region id l.toArray true) Q E0 L := by
  have hdeps : ∀ (j : Nat) (p : Par), ps[j]? = some p → ∀ d ∈ p.deps, d < 0 + j := by
    intro j p hp d hd
    have hj : j < l.length := by rw [← hps]; exact (List.getElem?_eq_some_iff.1 hp).1
    unfold regB at hB
    simp only [Bool.and_eq_true] at hB
    obtain ⟨o', p', ho', hp', ok⟩ := parB_spec (List.all_eq_true.1 hB.1.1.1 j (List.mem_range.2 hj))
    rw [hp] at hp'
    cases hp'
    have := (ok.anc d (ok.deps d hd)).1
    omega
  obtain ⟨V, hlen', k, hget⟩ := how.get rfl hdeps
  have hlen : l.length = V.length := hlen'.symm
  have hV : ∀ i, i < l.length → ∃ v, V[i]? = some v := fun i hi => ⟨V[i], List.getElem?_eq_getElem (by omega)⟩
  obtain ⟨E', hE', k⟩ : ∃ E', Le E' (finV l V l.length E0) ∧ Q .normal E' L' := ⟨_, Le.refl _, by rw [finA_eq hlen' _ (Nat.le_refl _)]; simpa using k⟩
  have hw : Wp C (.region id l.toArray true) (fun e E L => match e with | .normal => Le E' E ∧ L = L' | e => Q e E L) E0 L := by
    refine w_par ps ch (fun i y => V[i]? = some (y i)) (fun k _ => (Ls[k]?).getD []) (fun _ _ => []) (fun A => A = []) (A0 := []) (y0 := fun _ => undef) (hX := hX) hm hB (by simp [h0]) rfl ?_ (fun _ _ _ _ => rfl) ?_ ?_
    · intro i y y' h e
      rw [e, h i (.inl rfl)]
    · intro i hi o p ho hp y k A hA hk h1 h2 h3 _ a w K Qx ha hinv hK
      subst hA
      obtain ⟨v, hv⟩ := hV i hi
      have henv : envOf l E0 p y = envV l E0 p V := by
        unfold envOf envV
        congr 1
        have hdep : ∀ j ∈ p.deps, j ∈ p.anc := by
          unfold regB at hB
          simp only [Bool.and_eq_true] at hB
          obtain ⟨o', p', ho', hp', ok⟩ := parB_spec (List.all_eq_true.1 hB.1.1.1 i (List.mem_range.2 hi))
          rw [hp] at hp'
          cases hp'
          exact ok.deps
        revert hdep
        generalize p.deps = ds
        intro hdep
        induction ds with
        | nil => rfl
        | cons j ds ih =>
          have hj := h3 j (hdep j (by simp))
          simp only [List.filterMap_cons]
          cases hd : dstIn l j with
          | none => simpa using ih (fun j hj => hdep j (by simp [hj]))
          | some t =>
            simp only [hj]
            rw [ih (fun j hj => hdep j (by simp [hj]))]
      rw [henv] at ha
      obtain ⟨Lk, hLk⟩ : ∃ L, Ls[k]? = some L := ⟨Ls[k], List.getElem?_eq_getElem (by omega)⟩
      simp only [hLk, Option.getD_some, List.append_nil] at hinv
      refine hget i o p v ho hp hv k Lk h1 h2 hLk a w K Qx (by simpa using ha) hinv ?_
      rintro v' M w' ⟨rfl, hM⟩ hi'
      refine hK v' M w' ⟨[], rfl, by show V[i]? = some (upd y i v' i); rw [upd_same]; exact hv, ?_, fun B h => h, fun B h => by cases h⟩ hi'
      rw [Nat.zero_add] at hM
      by_cases hc : mem i ch = true
      · rw [if_pos hc] at hM ⊢
        obtain ⟨L'', e, hp⟩ := hM
        simpa [e] using hp
      · rw [if_neg hc] at hM ⊢
        simpa [hLk] using hM
    · intro y A hA hy _
      subst hA
      refine ⟨?_, by simp [hL]⟩
      rw [finV_eq hy _ (Nat.le_refl _)]
      exact hE'
  intro a w ha hi
  refine Code.wp_mono ?_ (hw a w ha hi)
  rintro e a' w' ⟨E, M, h1, h2, h3⟩
  cases e with
  | normal => obtain ⟨h3, rfl⟩ := h3; exact ⟨E', _, h1.le h3, h2, k⟩
  | exit _ => exact ⟨E, M, h1, h2, h3⟩
  | goto _ => exact ⟨E, M, h1, h2, h3⟩
  | ret => exact ⟨E, M, h1, h2, h3⟩
  | panic _ => exact ⟨E, M, h1, h2, h3⟩
  | outgrown => exact ⟨E, M, h1, h2, h3⟩
end
end Go.Sl

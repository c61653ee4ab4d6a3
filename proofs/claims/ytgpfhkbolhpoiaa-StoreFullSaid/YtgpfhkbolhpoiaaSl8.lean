/-
  Sl, part 8: regions that draw their order, some of whose values are not known ahead (append, make, calls): all is said as functions of 'y', what each operation yields. An operation may add assertions of its own ('At'), which stay to be read.
-/
import Derived.Test.YtgpfhkbolhpoiaaSl7
namespace Go.Sl
open Go.RowKit (Below)
set_option linter.unusedVariables false
set_option linter.unusedSimpArgs false

abbrev Yv := Nat → Value
def envY (l : List Oper) (E0 : Env) (p : Par) (V : List (Yv → Value)) (y : Yv) : Env :=
  (p.deps.filterMap fun j => match dstIn l j with | some t => (match V[j]? with | some f => some (t, f y) | none => none) | none => none) ++ p.slots.filterMap fun s => match E0.get s with | some v => some (s, v) | none => none
def finY (l : List Oper) (V : List (Yv → Value)) (y : Yv) : Nat → Env → Env
  | 0, E => E
  | i + 1, E => match dstIn l i with | some t => (match V[i]? with | some f => (t, f y) :: finY l V y i E | none => finY l V y i E) | none => finY l V y i E

/-- What is known of operation j behind it: its value; a fact; what it has added stands in the list. -/
structure Kn (V : List (Yv → Value)) (P : List (Yv → Prop)) (At : List (Yv → List HProp)) (A : List HProp) (j : Nat) (y : Yv) : Prop where
  val : ∃ f q, V[j]? = some f ∧ P[j]? = some q ∧ y j = f y ∧ q y
  add : ∀ a, At[j]? = some a → ∀ B ∈ a y, B ∈ A
theorem Kn.fact {V : List (Yv → Value)} {P : List (Yv → Prop)} {At : List (Yv → List HProp)} {A : List HProp} {j : Nat} {y : Yv} (h : Kn V P At A j y) {q : Yv → Prop} (hq : P[j]? = some q) : q y := by
  obtain ⟨f, q', _, e, _, k⟩ := h.val
  rw [hq] at e
  cases e
  exact k
theorem Kn.mem {V : List (Yv → Value)} {P : List (Yv → Prop)} {At : List (Yv → List HProp)} {A : List HProp} {j : Nat} {y : Yv} (h : Kn V P At A j y) {B : Yv → HProp} (hB : At[j]? = some (fun y => [B y])) : B y ∈ A := h.add _ hB _ (List.mem_singleton.2 rfl)
/-- The lists do not hang on what operation i yields. -/
def LsLoc : List (Yv → List HProp) → Nat → Prop
  | [], _ => True
  | f :: fs, i => (∀ y v, f (upd y i v) = f y) ∧ LsLoc fs i
theorem LsLoc.get {i : Nat} : ∀ {Ls : List (Yv → List HProp)}, LsLoc Ls i → ∀ {k : Nat} {Lf : Yv → List HProp}, Ls[k]? = some Lf → ∀ {y : Yv} {v : Value}, Lf (upd y i v) = Lf y
  | [], _, k, Lf, h, y, v => by simp at h
  | f :: fs, ⟨h1, h2⟩, 0, Lf, h, y, v => by simp at h; subst h; exact h1 y v
  | f :: fs, ⟨h1, h2⟩, k + 1, Lf, h, y, v => LsLoc.get h2 (by simpa using h)
theorem lsl0 {i : Nat} : LsLoc [] i := trivial
theorem lsl1 {i : Nat} {f : Yv → List HProp} {fs : List (Yv → List HProp)} (h : ∀ y v, f (upd y i v) = f y) (t : LsLoc fs i) : LsLoc (f :: fs) i := ⟨h, t⟩
def Loc (i : Nat) (p : Par) {β : Sort _} (f : Yv → β) : Prop := ∀ y y' : Yv, (∀ j, j = i ∨ j ∈ p.anc → y j = y' j) → f y = f y'

section
variable {C : Ctx} {E0 : Env} {Q : QT} {L : List HProp}

def OwedY (C : Ctx) (l : List Oper) (E0 : Env) (ch : List Nat) (V : List (Yv → Value)) (P : List (Yv → Prop)) (At : List (Yv → List HProp)) (Ls : List (Yv → List HProp)) : Nat → List Oper → List Par → List (Yv → Value) → List (Yv → Prop) → List (Yv → List HProp) → Prop
  | _, [], [], [], [], [] => True
  | i, o :: os, p :: ps, f :: fs, q :: qs, b :: bs => Loc i p f ∧ Loc i p q ∧ Loc i p b ∧ (∀ y k Lf A, p.lo ≤ k → k ≤ p.hi → (∀ j ∈ p.anc, Kn V P At A j y) → Ls[k]? = some Lf → Step C l.toArray o (envY l E0 p V y) (Lf y ++ A) (fun v L' => f (upd y i v) = v ∧ q (upd y i v) ∧ (if mem i ch then ∃ L'', Ls[k + 1]? = some L'' ∧ L'.Perm (L'' (upd y i v) ++ (b (upd y i v) ++ A)) else L'.Perm (Lf (upd y i v) ++ (b (upd y i v) ++ A))))) ∧ OwedY C l E0 ch V P At Ls (i + 1) os ps fs qs bs
  | _, _, _, _, _, _ => False
theorem OwedY.get {l : List Oper} {ch : List Nat} {V : List (Yv → Value)} {P : List (Yv → Prop)} {At : List (Yv → List HProp)} {Ls : List (Yv → List HProp)} : ∀ {i : Nat} {os : List Oper} {ps : List Par} {fs : List (Yv → Value)} {qs : List (Yv → Prop)} {bs : List (Yv → List HProp)}, OwedY C l E0 ch V P At Ls i os ps fs qs bs → os.length = fs.length ∧ os.length = qs.length ∧ os.length = bs.length ∧
    ∀ j o p f q b, os[j]? = some o → ps[j]? = some p → fs[j]? = some f → qs[j]? = some q → bs[j]? = some b → Loc (i + j) p f ∧ Loc (i + j) p q ∧ Loc (i + j) p b ∧ (∀ y k Lf A, p.lo ≤ k → k ≤ p.hi → (∀ j ∈ p.anc, Kn V P At A j y) → Ls[k]? = some Lf → Step C l.toArray o (envY l E0 p V y) (Lf y ++ A) (fun v L' => f (upd y (i + j) v) = v ∧ q (upd y (i + j) v) ∧ (if mem (i + j) ch then ∃ L'', Ls[k + 1]? = some L'' ∧ L'.Perm (L'' (upd y (i + j) v) ++ (b (upd y (i + j) v) ++ A)) else L'.Perm (Lf (upd y (i + j) v) ++ (b (upd y (i + j) v) ++ A)))))
  | i, [], [], [], [], [], _ => ⟨rfl, rfl, rfl, fun j o p f q b h => by simp at h⟩
  | i, o :: os, p :: ps, f :: fs, q :: qs, b :: bs, ⟨h1, h2, h2b, h3, h4⟩ => by
    obtain ⟨e1, e2, e3, h5⟩ := OwedY.get h4
    refine ⟨by simp [e1], by simp [e2], by simp [e3], fun j o' p' f' q' b' ho hp hf hq hb => ?_⟩
    cases j with
    | zero => simp at ho hp hf hq hb; subst ho; subst hp; subst hf; subst hq; subst hb; exact ⟨h1, h2, h2b, h3⟩
    | succ j =>
      have := h5 j o' p' f' q' b' (by simpa using ho) (by simpa using hp) (by simpa using hf) (by simpa using hq) (by simpa using hb)
      rw [show i + (j + 1) = i + 1 + j by omega]
      exact this
  | i, [], p :: ps, fs, qs, bs, h => by cases fs <;> cases qs <;> cases bs <;> exact h.elim
  | i, [], [], f :: fs, qs, bs, h => by cases qs <;> cases bs <;> exact h.elim
  | i, [], [], [], q :: qs, bs, h => by cases bs <;> exact h.elim
  | i, [], [], [], [], b :: bs, h => h.elim
  | i, o :: os, [], fs, qs, bs, h => by cases fs <;> cases qs <;> cases bs <;> exact h.elim
  | i, o :: os, p :: ps, [], qs, bs, h => by cases qs <;> cases bs <;> exact h.elim
  | i, o :: os, p :: ps, f :: fs, [], bs, h => by cases bs <;> exact h.elim
  | i, o :: os, p :: ps, f :: fs, q :: qs, [], h => h.elim

/-- What is known so far, last first: values, facts, what was added. -/
structure Acc where
  V : List (Yv → Value)
  P : List (Yv → Prop)
  At : List (Yv → List HProp)
def Acc.put (c : Acc) (f : Yv → Value) (q : Yv → Prop) (b : Yv → List HProp) : Acc := ⟨f :: c.V, q :: c.P, b :: c.At⟩
def envB (l : List Oper) (E0 : Env) (p : Par) (i : Nat) (c : Acc) (y : Yv) : Env :=
  (p.deps.filterMap fun j => match dstIn l j with | some t => (match c.V[i - 1 - j]? with | some f => some (t, f y) | none => none) | none => none) ++ p.slots.filterMap fun s => match E0.get s with | some v => some (s, v) | none => none
def finB (l : List Oper) (n : Nat) (c : Acc) (y : Yv) : Nat → Env → Env
  | 0, E => E
  | i + 1, E => match dstIn l i with | some t => (match c.V[n - 1 - i]? with | some f => (t, f y) :: finB l n c y i E | none => finB l n c y i E) | none => finB l n c y i E
structure KnB (c : Acc) (i : Nat) (A : List HProp) (j : Nat) (y : Yv) : Prop where
  val : ∃ f q, c.V[i - 1 - j]? = some f ∧ c.P[i - 1 - j]? = some q ∧ y j = f y ∧ q y
  add : ∀ a, c.At[i - 1 - j]? = some a → ∀ B ∈ a y, B ∈ A
theorem KnB.fact {c : Acc} {i : Nat} {A : List HProp} {j : Nat} {y : Yv} (h : KnB c i A j y) {q : Yv → Prop} (hq : c.P[i - 1 - j]? = some q) : q y := by
  obtain ⟨f, q', _, e, _, k⟩ := h.val
  rw [hq] at e
  cases e
  exact k
theorem KnB.mem {c : Acc} {i : Nat} {A : List HProp} {j : Nat} {y : Yv} (h : KnB c i A j y) {B : Yv → HProp} (hB : c.At[i - 1 - j]? = some (fun y => [B y])) : B y ∈ A := h.add _ hB _ (List.mem_singleton.2 rfl)

def OwB (C : Ctx) (l : List Oper) (E0 : Env) (ch : List Nat) (Ls : List (Yv → List HProp)) : Nat → Acc → List Oper → List Par → (Acc → Prop) → Prop
  | _, c, [], [], K => K c
  | i, c, o :: os, p :: ps, K => ∃ (f : Yv → Value) (q : Yv → Prop) (b : Yv → List HProp), Loc i p f ∧ Loc i p q ∧ Loc i p b ∧ (∀ y k Lf A, p.lo ≤ k → k ≤ p.hi → (∀ j ∈ p.anc, KnB c i A j y) → Ls[k]? = some Lf → Step C l.toArray o (envB l E0 p i c y) (Lf y ++ A) (fun v L' => f (upd y i v) = v ∧ q (upd y i v) ∧ (if mem i ch then ∃ L'', Ls[k + 1]? = some L'' ∧ L'.Perm (L'' (upd y i v) ++ (b (upd y i v) ++ A)) else L'.Perm (Lf (upd y i v) ++ (b (upd y i v) ++ A))))) ∧ OwB C l E0 ch Ls (i + 1) (c.put f q b) os ps K
  | _, _, _, _, _ => False

theorem OwB.get {l : List Oper} {ch : List Nat} {Ls : List (Yv → List HProp)} {K : Acc → Prop} : ∀ {i : Nat} {c : Acc} {os : List Oper} {ps : List Par}, OwB C l E0 ch Ls i c os ps K → c.V.length = i → c.P.length = i → c.At.length = i → (∀ (j : Nat) (p : Par), ps[j]? = some p → ∀ d, d ∈ p.deps ∨ d ∈ p.anc → d < i + j) →
    ∃ (fs : List (Yv → Value)) (qs : List (Yv → Prop)) (bs : List (Yv → List HProp)), K ⟨fs.reverse ++ c.V, qs.reverse ++ c.P, bs.reverse ++ c.At⟩ ∧ OwedY C l E0 ch (c.V.reverse ++ fs) (c.P.reverse ++ qs) (c.At.reverse ++ bs) Ls i os ps fs qs bs
  | i, c, [], [], h, _, _, _, _ => ⟨[], [], [], h, trivial⟩
  | i, c, o :: os, p :: ps, ⟨f, q, b, h1, h2, h3, h4, h5⟩, hV, hP, hA, hd => by
    obtain ⟨fs, qs, bs, hK, hrest⟩ := OwB.get h5 (by simp [Acc.put, hV]) (by simp [Acc.put, hP]) (by simp [Acc.put, hA]) (fun j p hp d hdd => by have := hd (j + 1) p (by simpa using hp) d hdd; omega)
    refine ⟨f :: fs, q :: qs, b :: bs, by simpa [Acc.put] using hK, h1, h2, h3, ?_, by simpa [Acc.put] using hrest⟩
    intro y k Lf A hk1 hk2 hkn hL
    have hd0 := hd 0 p (by simp)
    have get0 : ∀ {β : Type} (xs ys : List β) (x : β) (d : Nat), xs.length = i → d < i → (xs.reverse ++ x :: ys)[d]? = xs[i - 1 - d]? := by
      intro β xs ys x d hx hlt
      rw [List.getElem?_append_left (by simp; omega), List.getElem?_reverse (by omega), hx]
    have henv : envY l E0 p (c.V.reverse ++ f :: fs) y = envB l E0 p i c y := by
      unfold envY envB
      congr 1
      have hdd : ∀ d ∈ p.deps, d < i := fun d hd => by have := hd0 d (.inl hd); omega
      revert hdd
      generalize p.deps = ds
      intro hdd
      induction ds with
      | nil => rfl
      | cons d ds ih =>
        simp only [List.filterMap_cons, get0 c.V fs f d hV (hdd d (by simp))]
        rw [ih (fun d hd => hdd d (by simp [hd]))]
    rw [henv]
    refine h4 y k Lf A hk1 hk2 (fun j hj => ?_) hL
    obtain ⟨⟨f', q', e1, e2, e3, e4⟩, e5⟩ := hkn j hj
    have hlt := hd0 j (.inr hj)
    rw [get0 c.V fs f j hV (by omega)] at e1
    rw [get0 c.P qs q j hP (by omega)] at e2
    exact ⟨⟨f', q', e1, e2, e3, e4⟩, fun a ha => e5 a (by rw [get0 c.At bs b j hA (by omega)]; exact ha)⟩
  | i, c, [], p :: ps, h, _, _, _, _ => h.elim
  | i, c, o :: os, [], h, _, _, _, _ => h.elim

section
variable {l : List Oper} {ch : List Nat} {Ls : List (Yv → List HProp)} {i : Nat} {c : Acc} {o : Oper} {os : List Oper} {ps : List Par} {f : Yv → Value} {K : Acc → Prop}
theorem owedY_nil (h : K c) : OwB C l E0 ch Ls i c [] [] K := h
/-- An operation whose value is a function of the ones ahead; it reads the frame alone. -/
theorem owedY_pure {p : Par} (E : Yv → Env) (hE : ∀ y, envB l E0 p i c y = E y) (hn : mem i ch = false) (h : ∀ y A, (∀ j ∈ p.anc, KnB c i A j y) → ∀ L, Step C l.toArray o (E y) L (fun v' L' => v' = f y ∧ L' = L)) (hf : ∀ y v, f (upd y i v) = f y) (hloc : Loc i p f) (hLs : LsLoc Ls i) (r : OwB C l E0 ch Ls (i + 1) (c.put f (fun _ => True) (fun _ => [])) os ps K) : OwB C l E0 ch Ls i c (o :: os) (p :: ps) K :=
  ⟨f, (fun _ => True), (fun _ => []), hloc, fun _ _ _ => rfl, fun _ _ _ => rfl, fun y k Lf A h1 h2 h3 h4 a w K' Q ha hi hK => by
    rw [hE] at ha
    exact h y A h3 _ a w K' Q ha hi (fun v' L' w' ⟨e1, e2⟩ hi' => hK v' L' w' ⟨by rw [hf, e1], trivial, by rw [if_neg (by simp [hn]), hLs.get h4, e2]; exact .refl _⟩ hi'), r⟩
theorem owedY_read {anc deps slots : List Nat} {n : Nat} {Lf : Yv → List HProp} (E : Yv → Env) (hE : ∀ y, envB l E0 ⟨anc, deps, slots, n, n⟩ i c y = E y) (hn : mem i ch = false) (h : ∀ y A, (∀ j ∈ anc, KnB c i A j y) → Step C l.toArray o (E y) (Lf y ++ A) (fun v' L' => v' = f y ∧ L' = Lf y ++ A)) (hf : ∀ y v, f (upd y i v) = f y) (hloc : Loc i ⟨anc, deps, slots, n, n⟩ f) (hL : Ls[n]? = some Lf) (hLs : ∀ y v, Lf (upd y i v) = Lf y) (r : OwB C l E0 ch Ls (i + 1) (c.put f (fun _ => True) (fun _ => [])) os ps K) : OwB C l E0 ch Ls i c (o :: os) (⟨anc, deps, slots, n, n⟩ :: ps) K :=
  ⟨f, (fun _ => True), (fun _ => []), hloc, fun _ _ _ => rfl, fun _ _ _ => rfl, fun y k Lf' A h1 h2 h3 h4 a w K' Q ha hi hK => by
    have h1 : n ≤ k := h1
    have h2 : k ≤ n := h2
    obtain rfl : k = n := by omega
    rw [hL] at h4
    cases h4
    rw [hE] at ha
    exact h y A h3 a w K' Q ha hi (fun v' L' w' ⟨e1, e2⟩ hi' => hK v' L' w' ⟨by rw [hf, e1], trivial, by rw [if_neg (by simp [hn]), hLs, e2]; exact .refl _⟩ hi'), r⟩
theorem owedY_read2 {anc deps slots : List Nat} {n : Nat} {Lf Lf1 : Yv → List HProp} (E : Yv → Env) (hE : ∀ y, envB l E0 ⟨anc, deps, slots, n, n + 1⟩ i c y = E y) (hn : mem i ch = false) (h : ∀ y A, (∀ j ∈ anc, KnB c i A j y) → Step C l.toArray o (E y) (Lf y ++ A) (fun v' L' => v' = f y ∧ L' = Lf y ++ A)) (h' : ∀ y A, (∀ j ∈ anc, KnB c i A j y) → Step C l.toArray o (E y) (Lf1 y ++ A) (fun v' L' => v' = f y ∧ L' = Lf1 y ++ A)) (hf : ∀ y v, f (upd y i v) = f y) (hloc : Loc i ⟨anc, deps, slots, n, n + 1⟩ f) (hL : Ls[n]? = some Lf) (hLs : ∀ y v, Lf (upd y i v) = Lf y) (hL1 : Ls[n + 1]? = some Lf1) (hLs1 : ∀ y v, Lf1 (upd y i v) = Lf1 y) (r : OwB C l E0 ch Ls (i + 1) (c.put f (fun _ => True) (fun _ => [])) os ps K) : OwB C l E0 ch Ls i c (o :: os) (⟨anc, deps, slots, n, n + 1⟩ :: ps) K :=
  ⟨f, (fun _ => True), (fun _ => []), hloc, fun _ _ _ => rfl, fun _ _ _ => rfl, fun y k Lf' A h1 h2 h3 h4 a w K' Q ha hi hK => by
    have h1 : n ≤ k := h1
    have h2 : k ≤ n + 1 := h2
    rw [hE] at ha
    rcases (show k = n ∨ k = n + 1 by omega) with rfl | rfl
    · rw [hL] at h4
      cases h4
      exact h y A h3 a w K' Q ha hi (fun v' L' w' ⟨e1, e2⟩ hi' => hK v' L' w' ⟨by rw [hf, e1], trivial, by rw [if_neg (by simp [hn]), hLs, e2]; exact .refl _⟩ hi')
    · rw [hL1] at h4
      cases h4
      exact h' y A h3 a w K' Q ha hi (fun v' L' w' ⟨e1, e2⟩ hi' => hK v' L' w' ⟨by rw [hf, e1], trivial, by rw [if_neg (by simp [hn]), hLs1, e2]; exact .refl _⟩ hi'), r⟩
/-- A link of the chain that yields a known value. -/
theorem owedY_link {anc deps slots : List Nat} {n : Nat} {Lf Lf1 : Yv → List HProp} (E : Yv → Env) (hE : ∀ y, envB l E0 ⟨anc, deps, slots, n, n⟩ i c y = E y) (hn : mem i ch = true) (h : ∀ y A, (∀ j ∈ anc, KnB c i A j y) → Step C l.toArray o (E y) (Lf y ++ A) (fun v' L' => v' = f y ∧ L'.Perm (Lf1 y ++ A))) (hf : ∀ y v, f (upd y i v) = f y) (hloc : Loc i ⟨anc, deps, slots, n, n⟩ f) (hL : Ls[n]? = some Lf) (hL1 : Ls[n + 1]? = some Lf1) (hLs : ∀ y v, Lf1 (upd y i v) = Lf1 y) (r : OwB C l E0 ch Ls (i + 1) (c.put f (fun _ => True) (fun _ => [])) os ps K) : OwB C l E0 ch Ls i c (o :: os) (⟨anc, deps, slots, n, n⟩ :: ps) K :=
  ⟨f, (fun _ => True), (fun _ => []), hloc, fun _ _ _ => rfl, fun _ _ _ => rfl, fun y k Lf' A h1 h2 h3 h4 a w K' Q ha hi hK => by
    have h1 : n ≤ k := h1
    have h2 : k ≤ n := h2
    obtain rfl : k = n := by omega
    rw [hL] at h4
    cases h4
    rw [hE] at ha
    exact h y A h3 a w K' Q ha hi (fun v' L' w' ⟨e1, e2⟩ hi' => hK v' L' w' ⟨by rw [hf, e1], trivial, by rw [if_pos hn]; exact ⟨Lf1, hL1, by rw [hLs]; exact e2⟩⟩ hi'), r⟩
/-- A link that yields some value: 'Pv' says of it what is known; the list behind it is a function of it. -/
theorem owedY_some {anc deps slots : List Nat} {n : Nat} {Lf : Yv → List HProp} (G : Yv → Value → List HProp) (Pv : Yv → Value → Prop) (E : Yv → Env) (hE : ∀ y, envB l E0 ⟨anc, deps, slots, n, n⟩ i c y = E y) (hn : mem i ch = true) (hL : Ls[n]? = some Lf) (hL1 : Ls[n + 1]? = some (fun y => G y (y i)))
    (h : ∀ y A, (∀ j ∈ anc, KnB c i A j y) → Step C l.toArray o (E y) (Lf y ++ A) (fun v' L' => Pv y v' ∧ L'.Perm (G y v' ++ A))) (hG : ∀ y v u, G (upd y i v) u = G y u) (hP : ∀ y v u, Pv (upd y i v) u = Pv y u) (hlocP : Loc i ⟨anc, deps, slots, n, n⟩ (fun y => Pv y (y i))) (r : OwB C l E0 ch Ls (i + 1) (c.put (fun y => y i) (fun y => Pv y (y i)) (fun _ => [])) os ps K) : OwB C l E0 ch Ls i c (o :: os) (⟨anc, deps, slots, n, n⟩ :: ps) K :=
  ⟨(fun y => y i), (fun y => Pv y (y i)), (fun _ => []), fun y y' h => h i (.inl rfl), hlocP, fun _ _ _ => rfl, fun y k Lf' A h1 h2 h3 h4 a w K' Q ha hi hK => by
    have h1 : n ≤ k := h1
    have h2 : k ≤ n := h2
    obtain rfl : k = n := by omega
    rw [hL] at h4
    cases h4
    rw [hE] at ha
    exact h y A h3 a w K' Q ha hi (fun v' L' w' ⟨e1, e2⟩ hi' => hK v' L' w' ⟨upd_same y i v', by show Pv (upd y i v') (upd y i v' i); rw [upd_same, hP]; exact e1, by rw [if_pos hn]; exact ⟨_, hL1, by show L'.Perm (G (upd y i v') (upd y i v' i) ++ A); rw [upd_same, hG]; exact e2⟩⟩ hi'), r⟩
/-- An operation that makes memory of its own, whenever it comes. -/
theorem owedY_add {p : Par} (B : Yv → Value → HProp) (Pv : Yv → Value → Prop) (E : Yv → Env) (hE : ∀ y, envB l E0 p i c y = E y) (hn : mem i ch = false) (h : ∀ y A, (∀ j ∈ p.anc, KnB c i A j y) → ∀ L, Step C l.toArray o (E y) L (fun v' L' => Pv y v' ∧ L' = B y v' :: L)) (hLs : LsLoc Ls i)
    (hB : ∀ y v u, B (upd y i v) u = B y u) (hP : ∀ y v u, Pv (upd y i v) u = Pv y u) (hlocP : Loc i p (fun y => Pv y (y i))) (hlocB : Loc i p (fun y => [B y (y i)])) (r : OwB C l E0 ch Ls (i + 1) (c.put (fun y => y i) (fun y => Pv y (y i)) (fun y => [B y (y i)])) os ps K) : OwB C l E0 ch Ls i c (o :: os) (p :: ps) K :=
  ⟨(fun y => y i), (fun y => Pv y (y i)), (fun y => [B y (y i)]), fun y y' h => h i (.inl rfl), hlocP, hlocB, fun y k Lf A h1 h2 h3 h4 a w K' Q ha hi hK => by
    rw [hE] at ha
    refine h y A h3 _ a w K' Q ha hi (fun v' L' w' ⟨e1, e2⟩ hi' => hK v' L' w' ⟨upd_same y i v', by show Pv (upd y i v') (upd y i v' i); rw [upd_same, hP]; exact e1, ?_⟩ hi')
    rw [if_neg (by simp [hn]), hLs.get h4, e2]
    show (B y v' :: (Lf y ++ A)).Perm (Lf y ++ ([B (upd y i v') (upd y i v' i)] ++ A))
    rw [upd_same, hB]
    exact List.perm_middle.symm, r⟩
end

theorem OwB.mono {l : List Oper} {ch : List Nat} {Ls : List (Yv → List HProp)} {K K' : Acc → Prop} : ∀ {i : Nat} {c : Acc} {os : List Oper} {ps : List Par}, OwB C l E0 ch Ls i c os ps K → (∀ c, K c → K' c) → OwB C l E0 ch Ls i c os ps K'
  | i, c, [], [], h, hk => hk c h
  | i, c, o :: os, p :: ps, ⟨f, q, b, h1, h2, h3, h4, h5⟩, hk => ⟨f, q, b, h1, h2, h3, h4, OwB.mono h5 hk⟩
  | i, c, [], p :: ps, h, _ => h.elim
  | i, c, o :: os, [], h, _ => h.elim
theorem w_chainY {l : List Oper} {id : Nat} {Ls : List (Yv → List HProp)} (ps : List Par) (ch : List Nat) (hm : C.P.follows .mixedOrders = true) (hB : regB C l ps ch = true) (hps : ps.length = l.length)
    (hl : Ls.length = ch.length + 1) {L0 : Yv → List HProp} (h0 : Ls[0]? = some L0) (hL0 : ∀ y, L0 y = L) {Lm : Yv → List HProp} (hL : Ls[ch.length]? = some Lm)
    (how : OwB C l E0 ch Ls 0 ⟨[], [], []⟩ l ps (fun c => ∀ y A, (∀ j, j < l.length → KnB c l.length A j y) → Q .normal (finB l l.length c y l.length E0) (Lm y ++ A))) (hX : ∀ ch E L, C.X ch L → Q (.panic ch) E L := by exact fun _ _ _ h => h) : Wp C (.region id l.toArray true) Q E0 L := by
  have hdeps : ∀ (j : Nat) (p : Par), ps[j]? = some p → ∀ d, d ∈ p.deps ∨ d ∈ p.anc → d < 0 + j := by
    intro j p hp d hd
    have hj : j < l.length := by rw [← hps]; exact (List.getElem?_eq_some_iff.1 hp).1
    unfold regB at hB
    simp only [Bool.and_eq_true] at hB
    obtain ⟨o', p', ho', hp', ok⟩ := parB_spec (List.all_eq_true.1 hB.1.1.1 j (List.mem_range.2 hj))
    rw [hp] at hp'
    cases hp'
    have := (ok.anc d (hd.elim (ok.deps d) (fun h => h))).1
    omega
  obtain ⟨V, P, At, hk, how⟩ := how.get rfl rfl rfl hdeps
  simp only [List.reverse_nil, List.nil_append, List.append_nil] at hk how
  have hlens := how.get
  have k : ∀ y A, (∀ j, j < l.length → Kn V P At A j y) → Q .normal (finY l V y l.length E0) (Lm y ++ A) := by
    intro y A hkn
    have rev : ∀ {β : Type} (xs : List β) (j : Nat), l.length = xs.length → j < l.length → xs.reverse[l.length - 1 - j]? = xs[j]? := by
      intro β xs j hx hj
      rw [List.getElem?_reverse (by omega)]
      congr 1
      omega
    have h := hk y A (fun j hj => by
      obtain ⟨⟨f, q, e1, e2, e3, e4⟩, e5⟩ := hkn j hj
      exact ⟨⟨f, q, by rw [rev V j hlens.1 hj]; exact e1, by rw [rev P j hlens.2.1 hj]; exact e2, e3, e4⟩, fun a ha => e5 a (by rw [rev At j hlens.2.2.1 hj] at ha; exact ha)⟩)
    have hfin : ∀ n, n ≤ l.length → finB l l.length ⟨V.reverse, P.reverse, At.reverse⟩ y n E0 = finY l V y n E0 := by
      intro n
      induction n with
      | zero => intro _; rfl
      | succ n ih =>
        intro hn
        simp only [finB, finY]
        rw [ih (by omega), rev V n hlens.1 (by omega)]
    rw [hfin _ (Nat.le_refl _)] at h
    exact h

  obtain ⟨hlen, hlenP, hlenA, hget⟩ := how.get
  have hV : ∀ i, i < l.length → ∃ p f q b, ps[i]? = some p ∧ V[i]? = some f ∧ P[i]? = some q ∧ At[i]? = some b := fun i hi => ⟨ps[i], V[i], P[i], At[i], List.getElem?_eq_getElem (by omega), List.getElem?_eq_getElem (by omega), List.getElem?_eq_getElem (by omega), List.getElem?_eq_getElem (by omega)⟩
  have hAt : ∀ (i : Nat) (y : Yv), (((At[i]?).getD (fun _ => [])) y : List HProp) = match At[i]? with | some b => b y | none => [] := fun i y => by cases At[i]? <;> rfl
  refine w_par ps ch (fun i y => ∃ f q, V[i]? = some f ∧ P[i]? = some q ∧ y i = f y ∧ q y) (fun k y => ((Ls[k]?).getD (fun _ => [])) y) (fun i y => ((At[i]?).getD (fun _ => [])) y) (fun A => True) (A0 := []) (y0 := fun _ => undef) (hX := hX) hm hB (by simp [h0, hL0]) trivial ?_ ?_ ?_ ?_
  · rintro i y y' h ⟨f, q, e1, e2, e3, e4⟩
    have hi : i < l.length := by rw [hlen]; exact (List.getElem?_eq_some_iff.1 e1).1
    obtain ⟨p, f', q', b, hp, hf, hq, hb⟩ := hV i hi
    have ho : l[i]? = some l[i] := List.getElem?_eq_getElem hi
    obtain ⟨h1, h2, _⟩ := hget i _ p f q b ho hp e1 e2 hb
    rw [Nat.zero_add] at h1 h2
    have hanc : ∀ j, j = i ∨ j ∈ p.anc → y j = y' j := fun j hj => h j (hj.imp (fun h => h) (fun h => by simp [ancOf, hp, h]))
    exact ⟨f, q, e1, e2, by rw [← hanc i (.inl rfl), e3]; exact h1 y y' hanc, by rw [← h2 y y' hanc]; exact e4⟩
  · intro i y y' h
    by_cases hi : i < l.length
    · obtain ⟨p, f, q, b, hp, hf, hq, hb⟩ := hV i hi
      have ho : l[i]? = some l[i] := List.getElem?_eq_getElem hi
      obtain ⟨_, _, h3, _⟩ := hget i _ p f q b ho hp hf hq hb
      rw [Nat.zero_add] at h3
      have hanc : ∀ j, j = i ∨ j ∈ p.anc → y j = y' j := fun j hj => h j (hj.imp (fun h => h) (fun h => by simp [ancOf, hp, h]))
      simp only [hb, Option.getD_some]
      exact h3 y y' hanc
    · have : At[i]? = none := by simp; omega
      simp [this]
  · intro i hi o p ho hp y k A hA hk h1 h2 h3 h3b a w K Qx ha hinv hK
    obtain ⟨p', f, q, b, hp', hf, hq, hb⟩ := hV i hi
    rw [hp] at hp'
    cases hp'
    have hdep : ∀ j ∈ p.deps, j ∈ p.anc := by
      unfold regB at hB
      simp only [Bool.and_eq_true] at hB
      obtain ⟨o', p', ho', hp', ok⟩ := parB_spec (List.all_eq_true.1 hB.1.1.1 i (List.mem_range.2 hi))
      rw [hp] at hp'
      cases hp'
      exact ok.deps
    have henv : envOf l E0 p y = envY l E0 p V y := by
      unfold envOf envY
      congr 1
      revert hdep
      generalize p.deps = ds
      intro hdep
      induction ds with
      | nil => rfl
      | cons j ds ih =>
        obtain ⟨fj, qj, e1, e2, e3, e4⟩ := h3 j (hdep j (by simp))
        simp only [List.filterMap_cons]
        cases hd : dstIn l j with
        | none => simpa using ih (fun j hj => hdep j (by simp [hj]))
        | some t =>
          simp only [e1, e3]
          rw [ih (fun j hj => hdep j (by simp [hj]))]
    rw [henv] at ha
    obtain ⟨Lk, hLk⟩ : ∃ Lf, Ls[k]? = some Lf := ⟨Ls[k], List.getElem?_eq_getElem (by omega)⟩
    simp only [hLk, Option.getD_some] at hinv
    obtain ⟨_, _, _, hst⟩ := hget i o p f q b ho hp hf hq hb
    rw [Nat.zero_add] at hst
    have hkn : ∀ j ∈ p.anc, Kn V P At A j y := fun j hj => ⟨h3 j hj, fun a ha B hB => h3b j hj B (by simp only [ha, Option.getD_some]; exact hB)⟩
    refine hst y k Lk A h1 h2 hkn hLk a w K Qx ha hinv ?_
    rintro v' M w' ⟨e1, e2, hM⟩ hi'
    refine hK v' M w' ⟨b (upd y i v') ++ A, trivial, ⟨f, q, hf, hq, by rw [upd_same, e1], e2⟩, ?_, fun B h => List.mem_append_right _ h, fun B h => List.mem_append_left _ (by simp only [hb, Option.getD_some] at h; exact h)⟩ hi'
    by_cases hc : mem i ch = true
    · rw [if_pos hc] at hM ⊢
      obtain ⟨L'', e, hp⟩ := hM
      simpa [e] using hp
    · rw [if_neg hc] at hM ⊢
      simpa [hLk] using hM
  · intro y A hA hy hyA
    have hfin : ∀ n, n ≤ l.length → finE l y n E0 = finY l V y n E0 := by
      intro n
      induction n with
      | zero => intro _; rfl
      | succ n ih =>
        intro hn
        obtain ⟨f, q, e1, e2, e3, e4⟩ := hy n (by omega)
        simp only [finE, finY]
        rw [ih (by omega), e1, e3]
        cases dstIn l n <;> rfl
    rw [hfin _ (Nat.le_refl _)]
    simp only [hL, Option.getD_some]
    exact k y A (fun j hj => ⟨hy j hj, fun a ha B hB => hyA j hj B (by simp only [ha, Option.getD_some]; exact hB)⟩)
/-- The same, what was added being let go. -/
theorem w_chainY0 {l : List Oper} {id : Nat} {Ls : List (Yv → List HProp)} (ps : List Par) (ch : List Nat) (hm : C.P.follows .mixedOrders = true) (hB : regB C l ps ch = true) (hps : ps.length = l.length)
    (hl : Ls.length = ch.length + 1) {L0 : Yv → List HProp} (h0 : Ls[0]? = some L0) (hL0 : ∀ y, L0 y = L) {Lm : Yv → List HProp} (hL : Ls[ch.length]? = some Lm)
    (how : OwB C l E0 ch Ls 0 ⟨[], [], []⟩ l ps (fun c => ∀ y A, (∀ j, j < l.length → KnB c l.length A j y) → Q .normal (finB l l.length c y l.length E0) (Lm y))) (hX : ∀ ch E L, C.X ch L → Q (.panic ch) E L := by exact fun _ _ _ h => h) : Wp C (.region id l.toArray true) Q E0 L := by
  have h := w_chainY (Q := fun e E L => match e with | .normal => ∃ M A, L = M ++ A ∧ Q .normal E M | e => Q e E L) (id := id) (C := C) (E0 := E0) (hX := hX) ps ch hm hB hps hl h0 hL0 hL (by
    refine OwB.mono how (fun c hc y A hA => ⟨Lm y, A, rfl, hc y A hA⟩))
  intro a w ha hi
  refine Code.wp_mono ?_ (h a w ha hi)
  rintro e a' w' ⟨E, M, h1, h2, h3⟩
  cases e with
  | normal => obtain ⟨M', A, rfl, h3⟩ := h3; exact ⟨E, M', h1, h2.left, h3⟩
  | exit _ => exact ⟨E, M, h1, h2, h3⟩
  | goto _ => exact ⟨E, M, h1, h2, h3⟩
  | ret => exact ⟨E, M, h1, h2, h3⟩
  | panic _ => exact ⟨E, M, h1, h2, h3⟩
  | outgrown => exact ⟨E, M, h1, h2, h3⟩
/-- Slices by their values. -/
def slP : Value → Option Addr | .slice p _ _ => p | _ => none
def slC : Value → Nat | .slice _ _ c => c | _ => 0
theorem st_app {ops : Array Oper} {d : Option Nat} {ty : TypeId} {pos : String} {aft : Array Edge} {op : Op} {E : Env} {n : Nat} {e sz : Nat} {vs : List Value} {F : List HProp} {R : Value → List HProp → Prop}
    (h : OpX C op ty E L (fun v L' => ∃ p' cap', v = .slice p' n cap' ∧ L' = Sl p' n cap' e sz vs :: F)) (hR : ∀ p c, R (.slice p n c) (Sl p n c e sz vs :: F)) : Step C ops ⟨d, op, ty, pos, aft, none⟩ E L R :=
  st_x fun d pos aft g a w K Q ha hi hK => h d pos aft g a w K Q ha hi fun v L' w' ⟨p, c, e1, e2⟩ hi' => hK v L' w' (by subst e1; subst e2; exact hR p c) hi'
theorem st_new {ops : Array Oper} {d : Option Nat} {ty : TypeId} {pos : String} {aft : Array Edge} {op : Op} {E : Env} {n c : Nat} {A : Nat → HProp} {F : List HProp} {R : Value → List HProp → Prop}
    (h : OpX C op ty E L (fun v L' => ∃ b, v = .slice (some ⟨b, 0, none⟩) n c ∧ L' = A b :: F)) (hR : ∀ b, R (.slice (some ⟨b, 0, none⟩) n c) (A b :: F)) : Step C ops ⟨d, op, ty, pos, aft, none⟩ E L R :=
  st_x fun d pos aft g a w K Q ha hi hK => h d pos aft g a w K Q ha hi fun v L' w' ⟨b, e1, e2⟩ hi' => hK v L' w' (by subst e1; subst e2; exact hR b) hi'
theorem st_mono {ops : Array Oper} {o : Oper} {E : Env} {R R' : Value → List HProp → Prop} (h : Step C ops o E L R) (hR : ∀ v L', R v L' → R' v L') : Step C ops o E L R' :=
  fun a w K Q ha hi hK => h a w K Q ha hi fun v L' w' hr hi' => hK v L' w' (hR v L' hr) hi'
theorem st_call {ops : Array Oper} {d : Option Nat} {ty : TypeId} {pos : String} {aft : Array Edge} {E : Env} {f : FuncId} {args : List Operand} {tys : Array TypeId} {vs : List Value} {Pre F : List HProp} {R : Value → List HProp → Prop} {R' : Value → List HProp → Prop} (hS : Ctr C.P f vs Pre (Ret R)) (hb : bodyB C.P f = true) (hE : evs E args = some vs) (hL : Rems L Pre F)
    (hR : ∀ v G, R v G → R' v (G ++ F)) : Step C ops ⟨d, .call ⟨.value (.func f), args.toArray, tys⟩, ty, pos, aft, none⟩ E L R' :=
  st_mono (st_x (x_call hS hb hE hL)) fun v L' ⟨G, h1, e⟩ => by subst e; exact hR v G h1
end
end Go.Sl

/- Walks of functions that the law reaches, and what they lean on; no conditions. -/
import Derived.Test.YtookicfejdbddaaGreatM1
set_option linter.unusedVariables false
set_option linter.unusedSimpArgs false
set_option linter.unnecessarySimpa false
set_option maxRecDepth 100000
namespace Go.Sl
open Go.RowKit (Below)
def envV (l : List Oper) (E0 : Env) (p : Par) (V : List Value) : Env :=
  (p.deps.filterMap fun j => match dstIn l j with | some t => (match V[j]? with | some v => some (t, v) | none => none) | none => none) ++ p.slots.filterMap fun s => match E0.get s with | some v => some (s, v) | none => none
def finV (l : List Oper) (V : List Value) : Nat → Env → Env
  | 0, E => E
  | i + 1, E => match dstIn l i with | some t => (match V[i]? with | some v => (t, v) :: finV l V i E | none => finV l V i E) | none => finV l V i E
section
variable {C : Ctx} {E0 : Env} {Q : QT} {L : List HProp}
def envA (l : List Oper) (E0 : Env) (p : Par) (i : Nat) (acc : List Value) : Env :=
  (p.deps.filterMap fun j => match dstIn l j with | some t => (match acc[i - 1 - j]? with | some v => some (t, v) | none => none) | none => none) ++ p.slots.filterMap fun s => match E0.get s with | some v => some (s, v) | none => none
def finA (l : List Oper) (n : Nat) (acc : List Value) : Nat → Env → Env
  | 0, E => E
  | i + 1, E => match dstIn l i with | some t => (match acc[n - 1 - i]? with | some v => (t, v) :: finA l n acc i E | none => finA l n acc i E) | none => finA l n acc i E
def OwA (C : Ctx) (l : List Oper) (E0 : Env) (ch : List Nat) (Ls : List (List HProp)) : Nat → List Value → List Oper → List Par → (List Value → Prop) → Prop
  | _, acc, [], [], K => K acc
  | i, acc, o :: os, p :: ps, K => ∃ v, (∀ k L, p.lo ≤ k → k ≤ p.hi → Ls[k]? = some L → Step C l.toArray o (envA l E0 p i acc) L (fun v' L' => v' = v ∧ (if mem i ch then ∃ L'', Ls[k + 1]? = some L'' ∧ L'.Perm L'' else L'.Perm L))) ∧ OwA C l E0 ch Ls (i + 1) (v :: acc) os ps K
  | _, _, _, _, _ => False
section
variable {l : List Oper} {ch : List Nat} {Ls : List (List HProp)} {i : Nat} {acc : List Value} {o : Oper} {os : List Oper} {ps : List Par} {v : Value} {K : List Value → Prop}
theorem owed_nil (h : K acc) : OwA C l E0 ch Ls i acc [] [] K := h
theorem owed_pure {p : Par} (E : Env) (hE : envA l E0 p i acc = E) (hn : mem i ch = false) (h : ∀ L, Step C l.toArray o E L (fun v' L' => v' = v ∧ L' = L)) (r : OwA C l E0 ch Ls (i + 1) (v :: acc) os ps K) : OwA C l E0 ch Ls i acc (o :: os) (p :: ps) K :=
  ⟨v, fun k L _ _ _ a w K Q ha hi hK => by
    rw [hE] at ha
    exact h L a w K Q ha hi (fun v' L' w' ⟨e1, e2⟩ hi' => hK v' L' w' ⟨e1, by rw [if_neg (by simp [hn])]; rw [e2]⟩ hi'), r⟩
theorem owed_read {p : Par} (E : Env) (hE : envA l E0 p i acc = E) (hn : mem i ch = false)
    (h : ∀ k L, p.lo ≤ k → k ≤ p.hi → Ls[k]? = some L → Step C l.toArray o E L (fun v' L' => v' = v ∧ L' = L)) (r : OwA C l E0 ch Ls (i + 1) (v :: acc) os ps K) : OwA C l E0 ch Ls i acc (o :: os) (p :: ps) K :=
  ⟨v, fun k L h1 h2 h3 a w K Q ha hi hK => by
    rw [hE] at ha
    exact h k L h1 h2 h3 a w K Q ha hi (fun v' L' w' ⟨e1, e2⟩ hi' => hK v' L' w' ⟨e1, by rw [if_neg (by simp [hn])]; rw [e2]⟩ hi'), r⟩
theorem owed_read1 {anc deps slots : List Nat} {n : Nat} {L : List HProp} (E : Env) (hE : envA l E0 ⟨anc, deps, slots, n, n⟩ i acc = E) (hn : mem i ch = false) (hL : Ls[n]? = some L)
    (h : Step C l.toArray o E L (fun v' L' => v' = v ∧ L' = L)) (r : OwA C l E0 ch Ls (i + 1) (v :: acc) os ps K) : OwA C l E0 ch Ls i acc (o :: os) (⟨anc, deps, slots, n, n⟩ :: ps) K :=
  owed_read E hE hn (fun k L' h1 h2 h3 => by
    have h1 : n ≤ k := h1
    have h2 : k ≤ n := h2
    obtain rfl : k = n := by omega
    rw [hL] at h3
    cases h3
    exact h) r
theorem owed_link {anc deps slots : List Nat} {n : Nat} {L L1 : List HProp} (E : Env) (hE : envA l E0 ⟨anc, deps, slots, n, n⟩ i acc = E) (hn : mem i ch = true) (hL : Ls[n]? = some L) (hL1 : Ls[n + 1]? = some L1)
    (h : Step C l.toArray o E L (fun v' L' => v' = v ∧ L'.Perm L1)) (r : OwA C l E0 ch Ls (i + 1) (v :: acc) os ps K) : OwA C l E0 ch Ls i acc (o :: os) (⟨anc, deps, slots, n, n⟩ :: ps) K :=
  ⟨v, fun k L' h1 h2 h3 a w K Q ha hi hK => by
    have h1 : n ≤ k := h1
    have h2 : k ≤ n := h2
    obtain rfl : k = n := by omega
    rw [hL] at h3
    cases h3
    rw [hE] at ha
    exact h a w K Q ha hi (fun v' L' w' ⟨e1, e2⟩ hi' => hK v' L' w' ⟨e1, by rw [if_pos hn]; exact ⟨L1, hL1, e2⟩⟩ hi'), r⟩
end
theorem OwA.get {l : List Oper} {ch : List Nat} {Ls : List (List HProp)} {K : List Value → Prop} : ∀ {i : Nat} {acc : List Value} {os : List Oper} {ps : List Par}, OwA C l E0 ch Ls i acc os ps K → acc.length = i → (∀ (j : Nat) (p : Par), ps[j]? = some p → ∀ d ∈ p.deps, d < i + j) →
    ∃ vs : List Value, vs.length = os.length ∧ K (vs.reverse ++ acc) ∧ ∀ j o p v, os[j]? = some o → ps[j]? = some p → vs[j]? = some v → (∀ k L, p.lo ≤ k → k ≤ p.hi → Ls[k]? = some L → Step C l.toArray o (envV l E0 p (acc.reverse ++ vs)) L (fun v' L' => v' = v ∧ (if mem (i + j) ch then ∃ L'', Ls[k + 1]? = some L'' ∧ L'.Perm L'' else L'.Perm L)))
  | i, acc, [], [], h, _, _ => ⟨[], rfl, h, fun j o p v h => by simp at h⟩
  | i, acc, o :: os, p :: ps, ⟨v, h1, h2⟩, hacc, hd => by
    obtain ⟨vs, e1, e2, h3⟩ := OwA.get h2 (by simp [hacc]) (fun j p hp d hdd => by have := hd (j + 1) p (by simpa using hp) d hdd; omega)
    refine ⟨v :: vs, by simp [e1], by simpa using e2, fun j o' p' v' ho hp hv => ?_⟩
    cases j with
    | zero =>
      simp at ho hp hv
      subst ho; subst hp; subst hv
      have henv : envV l E0 p (acc.reverse ++ v :: vs) = envA l E0 p i acc := by
        unfold envV envA
        congr 1
        have hd0 := hd 0 p (by simp)
        clear h1 h2 h3
        revert hd0
        generalize p.deps = ds
        intro hd0
        induction ds with
        | nil => rfl
        | cons d ds ih =>
          have hlt := hd0 d (by simp)
          have hget : (acc.reverse ++ v :: vs)[d]? = acc[i - 1 - d]? := by
            rw [List.getElem?_append_left (by simp; omega), List.getElem?_reverse (by omega), hacc]
          simp only [List.filterMap_cons, hget]
          rw [ih (fun d hd => hd0 d (by simp [hd]))]
      rw [henv]
      simpa using h1
    | succ j =>
      have := h3 j o' p' v' (by simpa using ho) (by simpa using hp) (by simpa using hv)
      rw [show i + (j + 1) = i + 1 + j by omega]
      simpa using this
  | i, acc, [], p :: ps, h, _, _ => h.elim
  | i, acc, o :: os, [], h, _, _ => h.elim
theorem finV_eq {l : List Oper} {V : List Value} {y : Nat → Value} (h : ∀ i, i < l.length → V[i]? = some (y i)) : ∀ n, n ≤ l.length → finE l y n E0 = finV l V n E0
  | 0, _ => rfl
  | n + 1, hn => by
    simp only [finE, finV]
    rw [finV_eq h n (by omega), h n (by omega)]
    cases dstIn l n <;> rfl
theorem finA_eq {l : List Oper} {V : List Value} (hV : V.length = l.length) : ∀ n, n ≤ l.length → finV l V n E0 = finA l l.length V.reverse n E0
  | 0, _ => rfl
  | n + 1, hn => by
    simp only [finV, finA]
    rw [finA_eq hV n (by omega), List.getElem?_reverse (by omega), hV, show l.length - 1 - (l.length - 1 - n) = n by omega]
theorem w_chain {l : List Oper} {id : Nat} {Ls : List (List HProp)} (ps : List Par) (ch : List Nat) (hm : C.P.follows .mixedOrders = true) (hB : regB C l ps ch = true) (hps : ps.length = l.length)
    (hl : Ls.length = ch.length + 1) (h0 : Ls[0]? = some L) {L' : List HProp} (hL : Ls[ch.length]? = some L') (how : OwA C l E0 ch Ls 0 [] l ps (fun acc => Q .normal (finA l l.length acc l.length E0) L')) (hX : ∀ ch E L, C.X ch L → Q (.panic ch) E L := by exact fun _ _ _ h => h) : Wp C (.region id l.toArray true) Q E0 L := by
  have hdeps : ∀ (j : Nat) (p : Par), ps[j]? = some p → ∀ d ∈ p.deps, d < 0 + j := by
    intro j p hp d hd
    have hj : j < l.length := by rw [← hps]; exact (List.getElem?_eq_some_iff.1 hp).1
    unfold regB at hB
    simp only [Bool.and_eq_true] at hB
    obtain ⟨o', p', ho', hp', ok⟩ := parB_spec (List.all_eq_true.1 hB.1.1.1 j (List.mem_range.2 hj))
    rw [hp] at hp'
    cases hp'
    have := (ok.anc d (ok.deps d hd)).1
    omega
  obtain ⟨V, hlen', k, hget⟩ := how.get rfl hdeps
  have hlen : l.length = V.length := hlen'.symm
  have hV : ∀ i, i < l.length → ∃ v, V[i]? = some v := fun i hi => ⟨V[i], List.getElem?_eq_getElem (by omega)⟩
  obtain ⟨E', hE', k⟩ : ∃ E', Le E' (finV l V l.length E0) ∧ Q .normal E' L' := ⟨_, Le.refl _, by rw [finA_eq hlen' _ (Nat.le_refl _)]; simpa using k⟩
  have hw : Wp C (.region id l.toArray true) (fun e E L => match e with | .normal => Le E' E ∧ L = L' | e => Q e E L) E0 L := by
    refine w_par ps ch (fun i y => V[i]? = some (y i)) (fun k _ => (Ls[k]?).getD []) (fun _ _ => []) (fun A => A = []) (A0 := []) (y0 := fun _ => undef) (hX := hX) hm hB (by simp [h0]) rfl ?_ (fun _ _ _ _ => rfl) ?_ ?_
    · intro i y y' h e
      rw [e, h i (.inl rfl)]
    · intro i hi o p ho hp y k A hA hk h1 h2 h3 _ a w K Qx ha hinv hK
      subst hA
      obtain ⟨v, hv⟩ := hV i hi
      have henv : envOf l E0 p y = envV l E0 p V := by
        unfold envOf envV
        congr 1
        have hdep : ∀ j ∈ p.deps, j ∈ p.anc := by
          unfold regB at hB
          simp only [Bool.and_eq_true] at hB
          obtain ⟨o', p', ho', hp', ok⟩ := parB_spec (List.all_eq_true.1 hB.1.1.1 i (List.mem_range.2 hi))
          rw [hp] at hp'
          cases hp'
          exact ok.deps
        revert hdep
        generalize p.deps = ds
        intro hdep
        induction ds with
        | nil => rfl
        | cons j ds ih =>
          have hj := h3 j (hdep j (by simp))
          simp only [List.filterMap_cons]
          cases hd : dstIn l j with
          | none => simpa using ih (fun j hj => hdep j (by simp [hj]))
          | some t =>
            simp only [hj]
            rw [ih (fun j hj => hdep j (by simp [hj]))]
      rw [henv] at ha
      obtain ⟨Lk, hLk⟩ : ∃ L, Ls[k]? = some L := ⟨Ls[k], List.getElem?_eq_getElem (by omega)⟩
      simp only [hLk, Option.getD_some, List.append_nil] at hinv
      refine hget i o p v ho hp hv k Lk h1 h2 hLk a w K Qx (by simpa using ha) hinv ?_
      rintro v' M w' ⟨rfl, hM⟩ hi'
      refine hK v' M w' ⟨[], rfl, by show V[i]? = some (upd y i v' i); rw [upd_same]; exact hv, ?_, fun B h => h, fun B h => by cases h⟩ hi'
      rw [Nat.zero_add] at hM
      by_cases hc : mem i ch = true
      · rw [if_pos hc] at hM ⊢
        obtain ⟨L'', e, hp⟩ := hM
        simpa [e] using hp
      · rw [if_neg hc] at hM ⊢
        simpa [hLk] using hM
    · intro y A hA hy _
      subst hA
      refine ⟨?_, by simp [hL]⟩
      rw [finV_eq hy _ (Nat.le_refl _)]
      exact hE'
  intro a w ha hi
  refine Code.wp_mono ?_ (hw a w ha hi)
  rintro e a' w' ⟨E, M, h1, h2, h3⟩
  cases e with
  | normal => obtain ⟨h3, rfl⟩ := h3; exact ⟨E', _, h1.le h3, h2, k⟩
  | exit _ => exact ⟨E, M, h1, h2, h3⟩
  | goto _ => exact ⟨E, M, h1, h2, h3⟩
  | ret => exact ⟨E, M, h1, h2, h3⟩
  | panic _ => exact ⟨E, M, h1, h2, h3⟩
  | outgrown => exact ⟨E, M, h1, h2, h3⟩
end
end Go.Sl
namespace Go.Sl
open Go.RowKit (Below)
theorem mm0 {A : HProp} {L : List HProp} : A ∈ A :: L := .head _
theorem mm1 {A B : HProp} {L : List HProp} : A ∈ B :: A :: L := .tail _ (.head _)
theorem mm2 {A B B1 : HProp} {L : List HProp} : A ∈ B :: B1 :: A :: L := .tail _ mm1
theorem mm3 {A B B1 B2 : HProp} {L : List HProp} : A ∈ B :: B1 :: B2 :: A :: L := .tail _ mm2
theorem mm4 {A B B1 B2 B3 : HProp} {L : List HProp} : A ∈ B :: B1 :: B2 :: B3 :: A :: L := .tail _ mm3
theorem mm5 {A B B1 B2 B3 B4 : HProp} {L : List HProp} : A ∈ B :: B1 :: B2 :: B3 :: B4 :: A :: L := .tail _ mm4
theorem mm6 {A B B1 B2 B3 B4 B5 : HProp} {L : List HProp} : A ∈ B :: B1 :: B2 :: B3 :: B4 :: B5 :: A :: L := .tail _ mm5
theorem mm7 {A B B1 B2 B3 B4 B5 B6 : HProp} {L : List HProp} : A ∈ B :: B1 :: B2 :: B3 :: B4 :: B5 :: B6 :: A :: L := .tail _ mm6
theorem rr0 {A : HProp} {L : List HProp} : Rem (A :: L) A L := .head
theorem rr1 {A B : HProp} {L : List HProp} : Rem (B :: A :: L) A (B :: L) := .tail .head
theorem rr2 {A B B1 : HProp} {L : List HProp} : Rem (B :: B1 :: A :: L) A (B :: B1 :: L) := .tail rr1
theorem rr3 {A B B1 B2 : HProp} {L : List HProp} : Rem (B :: B1 :: B2 :: A :: L) A (B :: B1 :: B2 :: L) := .tail rr2
theorem rr4 {A B B1 B2 B3 : HProp} {L : List HProp} : Rem (B :: B1 :: B2 :: B3 :: A :: L) A (B :: B1 :: B2 :: B3 :: L) := .tail rr3
theorem rr5 {A B B1 B2 B3 B4 : HProp} {L : List HProp} : Rem (B :: B1 :: B2 :: B3 :: B4 :: A :: L) A (B :: B1 :: B2 :: B3 :: B4 :: L) := .tail rr4
theorem rr6 {A B B1 B2 B3 B4 B5 : HProp} {L : List HProp} : Rem (B :: B1 :: B2 :: B3 :: B4 :: B5 :: A :: L) A (B :: B1 :: B2 :: B3 :: B4 :: B5 :: L) := .tail rr5
theorem rr7 {A B B1 B2 B3 B4 B5 B6 : HProp} {L : List HProp} : Rem (B :: B1 :: B2 :: B3 :: B4 :: B5 :: B6 :: A :: L) A (B :: B1 :: B2 :: B3 :: B4 :: B5 :: B6 :: L) := .tail rr6
theorem pp0 {A A' : HProp} {L : List HProp} : Rep (A :: L) A A' (A' :: L) := .head
theorem pp1 {A A' B : HProp} {L : List HProp} : Rep (B :: A :: L) A A' (B :: A' :: L) := .tail .head
theorem pp2 {A A' B B1 : HProp} {L : List HProp} : Rep (B :: B1 :: A :: L) A A' (B :: B1 :: A' :: L) := .tail pp1
theorem pp3 {A A' B B1 B2 : HProp} {L : List HProp} : Rep (B :: B1 :: B2 :: A :: L) A A' (B :: B1 :: B2 :: A' :: L) := .tail pp2
theorem pp4 {A A' B B1 B2 B3 : HProp} {L : List HProp} : Rep (B :: B1 :: B2 :: B3 :: A :: L) A A' (B :: B1 :: B2 :: B3 :: A' :: L) := .tail pp3
theorem pp5 {A A' B B1 B2 B3 B4 : HProp} {L : List HProp} : Rep (B :: B1 :: B2 :: B3 :: B4 :: A :: L) A A' (B :: B1 :: B2 :: B3 :: B4 :: A' :: L) := .tail pp4
theorem pp6 {A A' B B1 B2 B3 B4 B5 : HProp} {L : List HProp} : Rep (B :: B1 :: B2 :: B3 :: B4 :: B5 :: A :: L) A A' (B :: B1 :: B2 :: B3 :: B4 :: B5 :: A' :: L) := .tail pp5
theorem pp7 {A A' B B1 B2 B3 B4 B5 B6 : HProp} {L : List HProp} : Rep (B :: B1 :: B2 :: B3 :: B4 :: B5 :: B6 :: A :: L) A A' (B :: B1 :: B2 :: B3 :: B4 :: B5 :: B6 :: A' :: L) := .tail pp6
theorem dd0 {L : List HProp} : Drop L L := .refl
theorem dd1 {A : HProp} {L : List HProp} : Drop (A :: L) L := .skip .refl
theorem dd2 {A B : HProp} {L : List HProp} : Drop (A :: B :: L) L := .skip dd1
theorem dd3 {A B B1 : HProp} {L : List HProp} : Drop (A :: B :: B1 :: L) L := .skip dd2
theorem dd4 {A B B1 B2 : HProp} {L : List HProp} : Drop (A :: B :: B1 :: B2 :: L) L := .skip dd3
theorem dd5 {A B B1 B2 B3 : HProp} {L : List HProp} : Drop (A :: B :: B1 :: B2 :: B3 :: L) L := .skip dd4
theorem dd6 {A B B1 B2 B3 B4 : HProp} {L : List HProp} : Drop (A :: B :: B1 :: B2 :: B3 :: B4 :: L) L := .skip dd5
theorem dd7 {A B B1 B2 B3 B4 B5 : HProp} {L : List HProp} : Drop (A :: B :: B1 :: B2 :: B3 :: B4 :: B5 :: L) L := .skip dd6
theorem dd8 {A B B1 B2 B3 B4 B5 B6 : HProp} {L : List HProp} : Drop (A :: B :: B1 :: B2 :: B3 :: B4 :: B5 :: B6 :: L) L := .skip dd7
section
variable {C : Ctx} {Q : QT} {E : Env} {L F : List HProp}
theorem w_sub {c : Code} {M : List HProp} (h : Sub L M) (k : Wp C c Q E M) : Wp C c Q E L := fun a w ha hi => k a w ha (h _ _ hi)
def Jn {ι : Type} (T : ι → Env) (G : ι → List HProp) (K : ι → Prop) (E : Env) (L : List HProp) : Prop := ∃ i, K i ∧ Le (T i) E ∧ Sub L (G i)
theorem w_loopG {ι : Type} {c : Code} (T : ι → Env) (G : ι → List HProp) (K : ι → Prop) (μ : ι → Nat) (h0 : Jn T G K E L)
    (h : ∀ i, K i → Wp C c (thn (fun E' L' => Jn T G (fun j => K j ∧ μ j < μ i) E' L') Q) (T i) (G i)) : Wp C (.loop c) Q E L := by
  obtain ⟨i0, k0, e0, l0⟩ := h0
  refine w_sub l0 (w_keep (T i0) e0 ?_)
  refine w_loop (fun m E L => ∃ i, K i ∧ μ i = m ∧ E = T i ∧ L = G i) (μ i0) ⟨i0, k0, rfl, rfl, rfl⟩ ?_
  rintro m E L ⟨i, ki, rfl, rfl, rfl⟩
  intro a w ha hi
  refine Code.wp_mono ?_ (h i ki a w ha hi)
  rintro e a' w' ⟨E', L', h1, h2, h3⟩
  cases e with
  | normal =>
    obtain ⟨j, ⟨kj, hlt⟩, hE, hL⟩ := h3
    exact ⟨T j, G j, h1.le hE, hL _ _ h2, μ j, hlt, j, kj, rfl, rfl, rfl⟩
  | exit _ => exact ⟨E', L', h1, h2, h3⟩
  | goto _ => exact ⟨E', L', h1, h2, h3⟩
  | ret => exact ⟨E', L', h1, h2, h3⟩
  | panic _ => exact ⟨E', L', h1, h2, h3⟩
  | outgrown => exact ⟨E', L', h1, h2, h3⟩
theorem w_joinG {ι : Type} {x y : Code} (T : ι → Env) (G : ι → List HProp) (K : ι → Prop) (h : Wp C x (thn (fun E' L' => Jn T G K E' L') Q) E L)
    (k : ∀ i, K i → Wp C y Q (T i) (G i)) : Wp C (.seq x y) Q E L := by
  refine w_seq (h.mono ?_)
  intro e E' L' hq
  cases e with
  | normal =>
    obtain ⟨i, ki, hE, hL⟩ := hq
    exact w_sub hL (w_keep _ hE (k i ki))
  | exit _ => exact hq
  | goto _ => exact hq
  | ret => exact hq
  | panic _ => exact hq
  | outgrown => exact hq
def J1 {α0 : Type} (T : α0 → Env) (G : α0 → List HProp) (K : α0 → Prop) (E : Env) (L : List HProp) : Prop := ∃ (y0 : α0), K y0 ∧ Le (T y0) E ∧ Sub L (G y0)
theorem J1.jn {α0 : Type} {T : α0 → Env} {G : α0 → List HProp} {K : α0 → Prop} {E : Env} {L : List HProp} (h : J1 T G K E L) : Jn (fun i : α0 => T i) (fun i : α0 => G i) (fun i : α0 => K i) E L :=
  let ⟨y0, h1, h2, h3⟩ := h; ⟨y0, h1, h2, h3⟩
theorem i1 {α0 : Type} {T : α0 → Env} {G : α0 → List HProp} {K : α0 → Prop} {E : Env} {L : List HProp} (y0 : α0) (h1 : K y0) (h2 : Le (T y0) E) (h3 : Sub L (G y0)) : J1 T G K E L := ⟨y0, h1, h2, h3⟩
theorem j1 {α0 : Type} {T : α0 → Env} {G : α0 → List HProp} {K : α0 → Prop} {E : Env} {L : List HProp} (y0 : α0) (h1 : K y0) (h2 : Le (T y0) E) (h3 : Sub L (G y0)) : thn (fun E' L' => J1 T G K E' L') Q .normal E L := ⟨y0, h1, h2, h3⟩
theorem w_loop1 {α0 : Type} {c : Code} (T : α0 → Env) (G : α0 → List HProp) (K : α0 → Prop) (μ : α0 → Nat) (h0 : J1 T G K E L)
    (h : ∀ (x0 : α0), K x0 → Wp C c (thn (fun E' L' => J1 T G (fun y0 => K y0 ∧ μ y0 < μ x0) E' L') Q) (T x0) (G x0)) : Wp C (.loop c) Q E L :=
  w_loopG (fun i : α0 => T i) (fun i : α0 => G i) (fun i : α0 => K i) (fun i : α0 => μ i) h0.jn fun i ki => (h i ki).mono fun e E' L' hq => by
    cases e with
    | normal => exact J1.jn hq
    | exit _ => exact hq
    | goto _ => exact hq
    | ret => exact hq
    | panic _ => exact hq
    | outgrown => exact hq
def J2 {α0 α1 : Type} (T : α0 → α1 → Env) (G : α0 → α1 → List HProp) (K : α0 → α1 → Prop) (E : Env) (L : List HProp) : Prop := ∃ (y0 : α0) (y1 : α1), K y0 y1 ∧ Le (T y0 y1) E ∧ Sub L (G y0 y1)
theorem J2.jn {α0 α1 : Type} {T : α0 → α1 → Env} {G : α0 → α1 → List HProp} {K : α0 → α1 → Prop} {E : Env} {L : List HProp} (h : J2 T G K E L) : Jn (fun i : α0 × α1 => T i.1 i.2) (fun i : α0 × α1 => G i.1 i.2) (fun i : α0 × α1 => K i.1 i.2) E L :=
  let ⟨y0, y1, h1, h2, h3⟩ := h; ⟨⟨y0, y1⟩, h1, h2, h3⟩
theorem i2 {α0 α1 : Type} {T : α0 → α1 → Env} {G : α0 → α1 → List HProp} {K : α0 → α1 → Prop} {E : Env} {L : List HProp} (y0 : α0) (y1 : α1) (h1 : K y0 y1) (h2 : Le (T y0 y1) E) (h3 : Sub L (G y0 y1)) : J2 T G K E L := ⟨y0, y1, h1, h2, h3⟩
theorem j2 {α0 α1 : Type} {T : α0 → α1 → Env} {G : α0 → α1 → List HProp} {K : α0 → α1 → Prop} {E : Env} {L : List HProp} (y0 : α0) (y1 : α1) (h1 : K y0 y1) (h2 : Le (T y0 y1) E) (h3 : Sub L (G y0 y1)) : thn (fun E' L' => J2 T G K E' L') Q .normal E L := ⟨y0, y1, h1, h2, h3⟩
theorem w_loop2 {α0 α1 : Type} {c : Code} (T : α0 → α1 → Env) (G : α0 → α1 → List HProp) (K : α0 → α1 → Prop) (μ : α0 → α1 → Nat) (h0 : J2 T G K E L)
    (h : ∀ (x0 : α0) (x1 : α1), K x0 x1 → Wp C c (thn (fun E' L' => J2 T G (fun y0 y1 => K y0 y1 ∧ μ y0 y1 < μ x0 x1) E' L') Q) (T x0 x1) (G x0 x1)) : Wp C (.loop c) Q E L :=
  w_loopG (fun i : α0 × α1 => T i.1 i.2) (fun i : α0 × α1 => G i.1 i.2) (fun i : α0 × α1 => K i.1 i.2) (fun i : α0 × α1 => μ i.1 i.2) h0.jn fun i ki => (h i.1 i.2 ki).mono fun e E' L' hq => by
    cases e with
    | normal => exact J2.jn hq
    | exit _ => exact hq
    | goto _ => exact hq
    | ret => exact hq
    | panic _ => exact hq
    | outgrown => exact hq
def J3 {α0 α1 α2 : Type} (T : α0 → α1 → α2 → Env) (G : α0 → α1 → α2 → List HProp) (K : α0 → α1 → α2 → Prop) (E : Env) (L : List HProp) : Prop := ∃ (y0 : α0) (y1 : α1) (y2 : α2), K y0 y1 y2 ∧ Le (T y0 y1 y2) E ∧ Sub L (G y0 y1 y2)
theorem i3 {α0 α1 α2 : Type} {T : α0 → α1 → α2 → Env} {G : α0 → α1 → α2 → List HProp} {K : α0 → α1 → α2 → Prop} {E : Env} {L : List HProp} (y0 : α0) (y1 : α1) (y2 : α2) (h1 : K y0 y1 y2) (h2 : Le (T y0 y1 y2) E) (h3 : Sub L (G y0 y1 y2)) : J3 T G K E L := ⟨y0, y1, y2, h1, h2, h3⟩
theorem j3 {α0 α1 α2 : Type} {T : α0 → α1 → α2 → Env} {G : α0 → α1 → α2 → List HProp} {K : α0 → α1 → α2 → Prop} {E : Env} {L : List HProp} (y0 : α0) (y1 : α1) (y2 : α2) (h1 : K y0 y1 y2) (h2 : Le (T y0 y1 y2) E) (h3 : Sub L (G y0 y1 y2)) : thn (fun E' L' => J3 T G K E' L') Q .normal E L := ⟨y0, y1, y2, h1, h2, h3⟩
def J4 {α0 α1 α2 α3 : Type} (T : α0 → α1 → α2 → α3 → Env) (G : α0 → α1 → α2 → α3 → List HProp) (K : α0 → α1 → α2 → α3 → Prop) (E : Env) (L : List HProp) : Prop := ∃ (y0 : α0) (y1 : α1) (y2 : α2) (y3 : α3), K y0 y1 y2 y3 ∧ Le (T y0 y1 y2 y3) E ∧ Sub L (G y0 y1 y2 y3)
theorem J4.jn {α0 α1 α2 α3 : Type} {T : α0 → α1 → α2 → α3 → Env} {G : α0 → α1 → α2 → α3 → List HProp} {K : α0 → α1 → α2 → α3 → Prop} {E : Env} {L : List HProp} (h : J4 T G K E L) : Jn (fun i : α0 × α1 × α2 × α3 => T i.1 i.2.1 i.2.2.1 i.2.2.2) (fun i : α0 × α1 × α2 × α3 => G i.1 i.2.1 i.2.2.1 i.2.2.2) (fun i : α0 × α1 × α2 × α3 => K i.1 i.2.1 i.2.2.1 i.2.2.2) E L :=
  let ⟨y0, y1, y2, y3, h1, h2, h3⟩ := h; ⟨⟨y0, y1, y2, y3⟩, h1, h2, h3⟩
theorem i4 {α0 α1 α2 α3 : Type} {T : α0 → α1 → α2 → α3 → Env} {G : α0 → α1 → α2 → α3 → List HProp} {K : α0 → α1 → α2 → α3 → Prop} {E : Env} {L : List HProp} (y0 : α0) (y1 : α1) (y2 : α2) (y3 : α3) (h1 : K y0 y1 y2 y3) (h2 : Le (T y0 y1 y2 y3) E) (h3 : Sub L (G y0 y1 y2 y3)) : J4 T G K E L := ⟨y0, y1, y2, y3, h1, h2, h3⟩
theorem j4 {α0 α1 α2 α3 : Type} {T : α0 → α1 → α2 → α3 → Env} {G : α0 → α1 → α2 → α3 → List HProp} {K : α0 → α1 → α2 → α3 → Prop} {E : Env} {L : List HProp} (y0 : α0) (y1 : α1) (y2 : α2) (y3 : α3) (h1 : K y0 y1 y2 y3) (h2 : Le (T y0 y1 y2 y3) E) (h3 : Sub L (G y0 y1 y2 y3)) : thn (fun E' L' => J4 T G K E' L') Q .normal E L := ⟨y0, y1, y2, y3, h1, h2, h3⟩
theorem w_loop4 {α0 α1 α2 α3 : Type} {c : Code} (T : α0 → α1 → α2 → α3 → Env) (G : α0 → α1 → α2 → α3 → List HProp) (K : α0 → α1 → α2 → α3 → Prop) (μ : α0 → α1 → α2 → α3 → Nat) (h0 : J4 T G K E L)
    (h : ∀ (x0 : α0) (x1 : α1) (x2 : α2) (x3 : α3), K x0 x1 x2 x3 → Wp C c (thn (fun E' L' => J4 T G (fun y0 y1 y2 y3 => K y0 y1 y2 y3 ∧ μ y0 y1 y2 y3 < μ x0 x1 x2 x3) E' L') Q) (T x0 x1 x2 x3) (G x0 x1 x2 x3)) : Wp C (.loop c) Q E L :=
  w_loopG (fun i : α0 × α1 × α2 × α3 => T i.1 i.2.1 i.2.2.1 i.2.2.2) (fun i : α0 × α1 × α2 × α3 => G i.1 i.2.1 i.2.2.1 i.2.2.2) (fun i : α0 × α1 × α2 × α3 => K i.1 i.2.1 i.2.2.1 i.2.2.2) (fun i : α0 × α1 × α2 × α3 => μ i.1 i.2.1 i.2.2.1 i.2.2.2) h0.jn fun i ki => (h i.1 i.2.1 i.2.2.1 i.2.2.2 ki).mono fun e E' L' hq => by
    cases e with
    | normal => exact J4.jn hq
    | exit _ => exact hq
    | goto _ => exact hq
    | ret => exact hq
    | panic _ => exact hq
    | outgrown => exact hq
theorem w_join4 {α0 α1 α2 α3 : Type} {x y : Code} (T : α0 → α1 → α2 → α3 → Env) (G : α0 → α1 → α2 → α3 → List HProp) (K : α0 → α1 → α2 → α3 → Prop) (h : Wp C x (thn (fun E' L' => J4 T G K E' L') Q) E L)
    (k : ∀ (x0 : α0) (x1 : α1) (x2 : α2) (x3 : α3), K x0 x1 x2 x3 → Wp C y Q (T x0 x1 x2 x3) (G x0 x1 x2 x3)) : Wp C (.seq x y) Q E L :=
  w_joinG (fun i : α0 × α1 × α2 × α3 => T i.1 i.2.1 i.2.2.1 i.2.2.2) (fun i : α0 × α1 × α2 × α3 => G i.1 i.2.1 i.2.2.1 i.2.2.2) (fun i : α0 × α1 × α2 × α3 => K i.1 i.2.1 i.2.2.1 i.2.2.2) (h.mono fun e E' L' hq => by
    cases e with
    | normal => exact J4.jn hq
    | exit _ => exact hq
    | goto _ => exact hq
    | ret => exact hq
    | panic _ => exact hq
    | outgrown => exact hq) fun i ki => k i.1 i.2.1 i.2.2.1 i.2.2.2 ki
def J5 {α0 α1 α2 α3 α4 : Type} (T : α0 → α1 → α2 → α3 → α4 → Env) (G : α0 → α1 → α2 → α3 → α4 → List HProp) (K : α0 → α1 → α2 → α3 → α4 → Prop) (E : Env) (L : List HProp) : Prop := ∃ (y0 : α0) (y1 : α1) (y2 : α2) (y3 : α3) (y4 : α4), K y0 y1 y2 y3 y4 ∧ Le (T y0 y1 y2 y3 y4) E ∧ Sub L (G y0 y1 y2 y3 y4)
theorem J5.jn {α0 α1 α2 α3 α4 : Type} {T : α0 → α1 → α2 → α3 → α4 → Env} {G : α0 → α1 → α2 → α3 → α4 → List HProp} {K : α0 → α1 → α2 → α3 → α4 → Prop} {E : Env} {L : List HProp} (h : J5 T G K E L) : Jn (fun i : α0 × α1 × α2 × α3 × α4 => T i.1 i.2.1 i.2.2.1 i.2.2.2.1 i.2.2.2.2) (fun i : α0 × α1 × α2 × α3 × α4 => G i.1 i.2.1 i.2.2.1 i.2.2.2.1 i.2.2.2.2) (fun i : α0 × α1 × α2 × α3 × α4 => K i.1 i.2.1 i.2.2.1 i.2.2.2.1 i.2.2.2.2) E L :=
  let ⟨y0, y1, y2, y3, y4, h1, h2, h3⟩ := h; ⟨⟨y0, y1, y2, y3, y4⟩, h1, h2, h3⟩
theorem i5 {α0 α1 α2 α3 α4 : Type} {T : α0 → α1 → α2 → α3 → α4 → Env} {G : α0 → α1 → α2 → α3 → α4 → List HProp} {K : α0 → α1 → α2 → α3 → α4 → Prop} {E : Env} {L : List HProp} (y0 : α0) (y1 : α1) (y2 : α2) (y3 : α3) (y4 : α4) (h1 : K y0 y1 y2 y3 y4) (h2 : Le (T y0 y1 y2 y3 y4) E) (h3 : Sub L (G y0 y1 y2 y3 y4)) : J5 T G K E L := ⟨y0, y1, y2, y3, y4, h1, h2, h3⟩
theorem j5 {α0 α1 α2 α3 α4 : Type} {T : α0 → α1 → α2 → α3 → α4 → Env} {G : α0 → α1 → α2 → α3 → α4 → List HProp} {K : α0 → α1 → α2 → α3 → α4 → Prop} {E : Env} {L : List HProp} (y0 : α0) (y1 : α1) (y2 : α2) (y3 : α3) (y4 : α4) (h1 : K y0 y1 y2 y3 y4) (h2 : Le (T y0 y1 y2 y3 y4) E) (h3 : Sub L (G y0 y1 y2 y3 y4)) : thn (fun E' L' => J5 T G K E' L') Q .normal E L := ⟨y0, y1, y2, y3, y4, h1, h2, h3⟩
theorem w_loop5 {α0 α1 α2 α3 α4 : Type} {c : Code} (T : α0 → α1 → α2 → α3 → α4 → Env) (G : α0 → α1 → α2 → α3 → α4 → List HProp) (K : α0 → α1 → α2 → α3 → α4 → Prop) (μ : α0 → α1 → α2 → α3 → α4 → Nat) (h0 : J5 T G K E L)
    (h : ∀ (x0 : α0) (x1 : α1) (x2 : α2) (x3 : α3) (x4 : α4), K x0 x1 x2 x3 x4 → Wp C c (thn (fun E' L' => J5 T G (fun y0 y1 y2 y3 y4 => K y0 y1 y2 y3 y4 ∧ μ y0 y1 y2 y3 y4 < μ x0 x1 x2 x3 x4) E' L') Q) (T x0 x1 x2 x3 x4) (G x0 x1 x2 x3 x4)) : Wp C (.loop c) Q E L :=
  w_loopG (fun i : α0 × α1 × α2 × α3 × α4 => T i.1 i.2.1 i.2.2.1 i.2.2.2.1 i.2.2.2.2) (fun i : α0 × α1 × α2 × α3 × α4 => G i.1 i.2.1 i.2.2.1 i.2.2.2.1 i.2.2.2.2) (fun i : α0 × α1 × α2 × α3 × α4 => K i.1 i.2.1 i.2.2.1 i.2.2.2.1 i.2.2.2.2) (fun i : α0 × α1 × α2 × α3 × α4 => μ i.1 i.2.1 i.2.2.1 i.2.2.2.1 i.2.2.2.2) h0.jn fun i ki => (h i.1 i.2.1 i.2.2.1 i.2.2.2.1 i.2.2.2.2 ki).mono fun e E' L' hq => by
    cases e with
    | normal => exact J5.jn hq
    | exit _ => exact hq
    | goto _ => exact hq
    | ret => exact hq
    | panic _ => exact hq
    | outgrown => exact hq
def J6 {α0 α1 α2 α3 α4 α5 : Type} (T : α0 → α1 → α2 → α3 → α4 → α5 → Env) (G : α0 → α1 → α2 → α3 → α4 → α5 → List HProp) (K : α0 → α1 → α2 → α3 → α4 → α5 → Prop) (E : Env) (L : List HProp) : Prop := ∃ (y0 : α0) (y1 : α1) (y2 : α2) (y3 : α3) (y4 : α4) (y5 : α5), K y0 y1 y2 y3 y4 y5 ∧ Le (T y0 y1 y2 y3 y4 y5) E ∧ Sub L (G y0 y1 y2 y3 y4 y5)
def J7 {α0 α1 α2 α3 α4 α5 α6 : Type} (T : α0 → α1 → α2 → α3 → α4 → α5 → α6 → Env) (G : α0 → α1 → α2 → α3 → α4 → α5 → α6 → List HProp) (K : α0 → α1 → α2 → α3 → α4 → α5 → α6 → Prop) (E : Env) (L : List HProp) : Prop := ∃ (y0 : α0) (y1 : α1) (y2 : α2) (y3 : α3) (y4 : α4) (y5 : α5) (y6 : α6), K y0 y1 y2 y3 y4 y5 y6 ∧ Le (T y0 y1 y2 y3 y4 y5 y6) E ∧ Sub L (G y0 y1 y2 y3 y4 y5 y6)
def J8 {α0 α1 α2 α3 α4 α5 α6 α7 : Type} (T : α0 → α1 → α2 → α3 → α4 → α5 → α6 → α7 → Env) (G : α0 → α1 → α2 → α3 → α4 → α5 → α6 → α7 → List HProp) (K : α0 → α1 → α2 → α3 → α4 → α5 → α6 → α7 → Prop) (E : Env) (L : List HProp) : Prop := ∃ (y0 : α0) (y1 : α1) (y2 : α2) (y3 : α3) (y4 : α4) (y5 : α5) (y6 : α6) (y7 : α7), K y0 y1 y2 y3 y4 y5 y6 y7 ∧ Le (T y0 y1 y2 y3 y4 y5 y6 y7) E ∧ Sub L (G y0 y1 y2 y3 y4 y5 y6 y7)
theorem thn_e {k : Env → List HProp → Prop} {i : Nat} (h : Q (.exit i) E L) : thn k Q (.exit i) E L := h
theorem thn_r {k : Env → List HProp → Prop} (h : Q .ret E L) : thn k Q .ret E L := h
theorem thn_p {k : Env → List HProp → Prop} {ch : List PanicEntry} (h : Q (.panic ch) E L) : thn k Q (.panic ch) E L := h
theorem blk_n {i : Nat} (h : Q .normal E L) : blk i Q .normal E L := h
theorem blk_r {i : Nat} (h : Q .ret E L) : blk i Q .ret E L := h
theorem blk_x {i : Nat} (h : Q .normal E L) : blk i Q (.exit i) E L := by simp [blk, h]
theorem blk_o {i j : Nat} (hn : Nat.beq j i = false) (h : Q (.exit j) E L) : blk i Q (.exit j) E L := by simp only [blk, hn, cond_false]; exact h
section
variable {L' : List HProp} {ty : TypeId} {op : Op} {v : Value}
theorem v_T {p : Prop} [Decidable p] (h : OpV C op ty E L (.bool (decide p)) L') (hp : p) : OpV C op ty E L (.bool true) L' := by
  rw [decide_eq_true hp] at h; exact h
theorem v_F {p : Prop} [Decidable p] (h : OpV C op ty E L (.bool (decide p)) L') (hp : ¬ p) : OpV C op ty E L (.bool false) L' := by
  rw [decide_eq_false hp] at h; exact h
theorem v_to {u : Value} (h : OpV C op ty E L u L') (e : u = v) : OpV C op ty E L v L' := e ▸ h
theorem v_fn {fn : Fn} {fl cl : List Operand} {fs cs : List Value} (hf : evs E fl = some fs) (hc : evs E cl = some cs) : OpV C (.makeFunc fn fl.toArray cl.toArray) ty E L (.func fn fs.toArray cs.toArray) L := pureV fun d pos aft g a w ha => by
  simp only [execOp, Instr.makeFunc, ha.evs hf, ha.evs hc]
  rfl
theorem v_slice0 {x : Operand} {hi mx : Option Operand} {t e sz by_ n cap : Nat} {p : Option Addr} (r m : Nat) (ht : sliceB C.P t = some (e, sz, by_)) (hx : evalE E x = some (.slice p n cap))
    (hr : match hi with | none => r = n ∧ mx = none | some z => ∃ k, evalE E z = some (.int k (r : Int)))
    (hm : match mx with | none => m = cap | some z => ∃ k, evalE E z = some (.int k (m : Int)))
    (h2 : r ≤ m) (h3 : m ≤ cap) : OpV C (.slice t x none hi mx) ty E L (.slice p r m) L := by
  have := v_slice (C := C) (E := E) (L := L) (ty := ty) (lo := none) 0 r m ht hx rfl hr hm (Nat.zero_le _) h2 h3
  rwa [subP_zero, Nat.sub_zero, Nat.sub_zero] at this
end
end
end Go.Sl
namespace Go.Sl
open Go.RowKit (Below)
abbrev Yv := Nat → Value
def envY (l : List Oper) (E0 : Env) (p : Par) (V : List (Yv → Value)) (y : Yv) : Env :=
  (p.deps.filterMap fun j => match dstIn l j with | some t => (match V[j]? with | some f => some (t, f y) | none => none) | none => none) ++ p.slots.filterMap fun s => match E0.get s with | some v => some (s, v) | none => none
def finY (l : List Oper) (V : List (Yv → Value)) (y : Yv) : Nat → Env → Env
  | 0, E => E
  | i + 1, E => match dstIn l i with | some t => (match V[i]? with | some f => (t, f y) :: finY l V y i E | none => finY l V y i E) | none => finY l V y i E
structure Kn (V : List (Yv → Value)) (P : List (Yv → Prop)) (At : List (Yv → List HProp)) (A : List HProp) (j : Nat) (y : Yv) : Prop where
  val : ∃ f q, V[j]? = some f ∧ P[j]? = some q ∧ y j = f y ∧ q y
  add : ∀ a, At[j]? = some a → ∀ B ∈ a y, B ∈ A
def LsLoc : List (Yv → List HProp) → Nat → Prop
  | [], _ => True
  | f :: fs, i => (∀ y v, f (upd y i v) = f y) ∧ LsLoc fs i
def Loc (i : Nat) (p : Par) {β : Sort _} (f : Yv → β) : Prop := ∀ y y' : Yv, (∀ j, j = i ∨ j ∈ p.anc → y j = y' j) → f y = f y'
section
variable {C : Ctx} {E0 : Env} {Q : QT} {L : List HProp}
def OwedY (C : Ctx) (l : List Oper) (E0 : Env) (ch : List Nat) (V : List (Yv → Value)) (P : List (Yv → Prop)) (At : List (Yv → List HProp)) (Ls : List (Yv → List HProp)) : Nat → List Oper → List Par → List (Yv → Value) → List (Yv → Prop) → List (Yv → List HProp) → Prop
  | _, [], [], [], [], [] => True
  | i, o :: os, p :: ps, f :: fs, q :: qs, b :: bs => Loc i p f ∧ Loc i p q ∧ Loc i p b ∧ (∀ y k Lf A, p.lo ≤ k → k ≤ p.hi → (∀ j ∈ p.anc, Kn V P At A j y) → Ls[k]? = some Lf → Step C l.toArray o (envY l E0 p V y) (Lf y ++ A) (fun v L' => f (upd y i v) = v ∧ q (upd y i v) ∧ (if mem i ch then ∃ L'', Ls[k + 1]? = some L'' ∧ L'.Perm (L'' (upd y i v) ++ (b (upd y i v) ++ A)) else L'.Perm (Lf (upd y i v) ++ (b (upd y i v) ++ A))))) ∧ OwedY C l E0 ch V P At Ls (i + 1) os ps fs qs bs
  | _, _, _, _, _, _ => False
structure Acc where
  V : List (Yv → Value)
  P : List (Yv → Prop)
  At : List (Yv → List HProp)
def Acc.put (c : Acc) (f : Yv → Value) (q : Yv → Prop) (b : Yv → List HProp) : Acc := ⟨f :: c.V, q :: c.P, b :: c.At⟩
def envB (l : List Oper) (E0 : Env) (p : Par) (i : Nat) (c : Acc) (y : Yv) : Env :=
  (p.deps.filterMap fun j => match dstIn l j with | some t => (match c.V[i - 1 - j]? with | some f => some (t, f y) | none => none) | none => none) ++ p.slots.filterMap fun s => match E0.get s with | some v => some (s, v) | none => none
def finB (l : List Oper) (n : Nat) (c : Acc) (y : Yv) : Nat → Env → Env
  | 0, E => E
  | i + 1, E => match dstIn l i with | some t => (match c.V[n - 1 - i]? with | some f => (t, f y) :: finB l n c y i E | none => finB l n c y i E) | none => finB l n c y i E
structure KnB (c : Acc) (i : Nat) (A : List HProp) (j : Nat) (y : Yv) : Prop where
  val : ∃ f q, c.V[i - 1 - j]? = some f ∧ c.P[i - 1 - j]? = some q ∧ y j = f y ∧ q y
  add : ∀ a, c.At[i - 1 - j]? = some a → ∀ B ∈ a y, B ∈ A
def OwB (C : Ctx) (l : List Oper) (E0 : Env) (ch : List Nat) (Ls : List (Yv → List HProp)) : Nat → Acc → List Oper → List Par → (Acc → Prop) → Prop
  | _, c, [], [], K => K c
  | i, c, o :: os, p :: ps, K => ∃ (f : Yv → Value) (q : Yv → Prop) (b : Yv → List HProp), Loc i p f ∧ Loc i p q ∧ Loc i p b ∧ (∀ y k Lf A, p.lo ≤ k → k ≤ p.hi → (∀ j ∈ p.anc, KnB c i A j y) → Ls[k]? = some Lf → Step C l.toArray o (envB l E0 p i c y) (Lf y ++ A) (fun v L' => f (upd y i v) = v ∧ q (upd y i v) ∧ (if mem i ch then ∃ L'', Ls[k + 1]? = some L'' ∧ L'.Perm (L'' (upd y i v) ++ (b (upd y i v) ++ A)) else L'.Perm (Lf (upd y i v) ++ (b (upd y i v) ++ A))))) ∧ OwB C l E0 ch Ls (i + 1) (c.put f q b) os ps K
  | _, _, _, _, _ => False
section
variable {l : List Oper} {ch : List Nat} {Ls : List (Yv → List HProp)} {i : Nat} {c : Acc} {o : Oper} {os : List Oper} {ps : List Par} {f : Yv → Value} {K : Acc → Prop}
end
def slP : Value → Option Addr | .slice p _ _ => p | _ => none
def slC : Value → Nat | .slice _ _ c => c | _ => 0
theorem st_mono {ops : Array Oper} {o : Oper} {E : Env} {R R' : Value → List HProp → Prop} (h : Step C ops o E L R) (hR : ∀ v L', R v L' → R' v L') : Step C ops o E L R' :=
  fun a w K Q ha hi hK => h a w K Q ha hi fun v L' w' hr hi' => hK v L' w' (hR v L' hr) hi'
theorem st_call {ops : Array Oper} {d : Option Nat} {ty : TypeId} {pos : String} {aft : Array Edge} {E : Env} {f : FuncId} {args : List Operand} {tys : Array TypeId} {vs : List Value} {Pre F : List HProp} {R : Value → List HProp → Prop} {R' : Value → List HProp → Prop} (hS : Ctr C.P f vs Pre (Ret R)) (hb : bodyB C.P f = true) (hE : evs E args = some vs) (hL : Rems L Pre F)
    (hR : ∀ v G, R v G → R' v (G ++ F)) : Step C ops ⟨d, .call ⟨.value (.func f), args.toArray, tys⟩, ty, pos, aft, none⟩ E L R' :=
  st_mono (st_x (x_call hS hb hE hL)) fun v L' ⟨G, h1, e⟩ => by subst e; exact hR v G h1
end
end Go.Sl
namespace Go.Sl
open Go.RowKit (Below)
section
variable {C : Ctx} {Q : QT} {E : Env} {L L' F : List HProp} {ops : Array Oper} {rest : List Oper} {d : Nat} {ty : TypeId} {pos : String} {aft : Array Edge} {op : Op} {v : Value}
theorem v_clear {x : Operand} {t e sz by_ n k cap m2 : Nat} {p : Option Addr} {vs zs : List Value} (ht : sliceB C.P t = some (e, sz, by_)) (hz : zeroB C.P e = some zs) (hz1 : zs.all Value.oneCell' = true) (hx : evalE E x = some (.slice (subP p n cap sz) k m2)) (hm : Sl p n cap e sz vs ∈ L) (hk : n + k ≤ cap) :
    OpV C (.call ⟨.builtin .clear, [x].toArray, #[t]⟩) ty E L (.tuple #[]) L := by
  intro d pos aft g a w ha hi
  obtain ⟨ht1, i, hi2, rfl, rfl⟩ := slice_spec ht
  obtain ⟨i', z, hz2, hz3, hz4, hz5⟩ := zero_spec hz
  rw [hi2] at hz2
  cases hz2
  obtain ⟨consts, hrun⟩ := run_resolve_builtin (C := C) (ty := ty) (pos := pos) (aft := aft) (b := .clear) (xs := [x]) (tys := #[t]) (vs := [.slice (subP p n cap i.size) k m2]) (a := a) (by simp [ha.eval hx]) d g w
  rw [hrun]
  obtain ⟨X, Y, hXY⟩ := List.append_of_mem hm
  have hi0 : Inv C.w0 (Sl p n cap e i.size vs :: (X ++ Y)) w := hi.perm (by rw [hXY]; exact List.perm_middle)
  have hback : ∀ w', Inv C.w0 (Sl p n cap e i.size vs :: (X ++ Y)) w' → Inv C.w0 L w' := fun w' h => h.perm (by rw [hXY]; exact List.perm_middle.symm)
  by_cases hk0 : k = 0
  · subst hk0
    refine ⟨w, .inl ?_, hi, fun h => by cases h⟩
    cases hp : subP p n cap i.size <;> simp [builtin, Builtin.clear_, run_underlying ht1]
  · obtain ⟨zz, hzz, hi1⟩ := hi0.opn (Sl.open_ C.w0)
    cases zz with
    | none => obtain ⟨rfl, rfl, rfl, rfl⟩ := hzz; omega
    | some zz =>
      obtain ⟨b, o, pre, post⟩ := zz
      obtain ⟨rfl, e1, e2, e3, e4⟩ := hzz
      have hsub := subP_some b o n cap i.size (by omega)
      have hks : k * i.size ≤ (cap - n) * i.size := Nat.mul_le_mul_right _ (by omega)
      have hzl : (Builtin.zeroCells z.cells k).toList.length = k * i.size := by simp [size_zeroCells, hz4, hz5]
      obtain ⟨w', hr, hi'⟩ := run_storeCells (C := C) (Builtin.zeroCells z.cells k).toList (o + n * i.size) 0 _ _ w (fun u hu => by
        simp only [Builtin.zeroCells, Array.toList_map, List.mem_map, Array.toList_range, List.mem_range] at hu
        obtain ⟨j, hj, rfl⟩ := hu
        have hpos : 0 < z.cells.size := by
          rcases Nat.eq_zero_or_pos z.cells.size with h | h
          · rw [h] at hj; simp at hj
          · exact h
        have hlt : j % z.cells.size < z.cells.size := Nat.mod_lt _ hpos
        simp only [hlt, getElem!_pos]
        have hmem : z.cells[j % z.cells.size] ∈ zs := by
          have : z.cells.toList = zs := by rw [hz4]
          rw [← this]
          exact Array.mem_toList_iff.2 (Array.getElem_mem hlt)
        simpa using List.all_eq_true.1 hz1 _ hmem) (by simp only [List.length_append, e1, e2, hzl]; omega) hi1
      refine ⟨w', .inl ?_, ?_, fun h => by cases h⟩
      · rw [hsub]
        obtain ⟨k, rfl⟩ : ∃ k', k = k' + 1 := ⟨k - 1, by omega⟩
        simp [builtin, Builtin.clear_, run_underlying ht1, zeroValue, typeInfo, hi2, hz3, hr]
      · refine hback _ ?_
        refine Inv.cls (B := [Cel b e (pre ++ vs ++ ((Builtin.zeroCells z.cells k).toList ++ post.drop (k * i.size)))]) (fun h hc => Sl.mk hc e1 e2 ?_ e4) ?_
        · simp only [List.length_append, hzl, List.length_drop]; omega
        · have h5 : (pre ++ vs ++ post).take (o + n * i.size + 0) = pre ++ vs := by rw [Nat.add_zero]; exact List.take_left' (by simp [e1, e2])
          have h6 : (pre ++ vs ++ post).drop (o + n * i.size + 0 + (Builtin.zeroCells z.cells k).toList.length) = post.drop (k * i.size) := by
            rw [Nat.add_zero, hzl, show o + n * i.size + k * i.size = (pre ++ vs).length + k * i.size by simp [e1, e2], ← List.drop_drop, List.drop_left]
          rw [h5, h6] at hi'
          simpa [List.append_assoc] using hi'
end
theorem fold' {L G M F : List HProp} {A : HProp} (hr : Rems L G M) (hd : Drop M F) (hA : ∀ w0 h, sats w0 G h → A w0 h) : Sub L (A :: F) := (sub hr hd).trans (fold hA)
def ints (k : IntKind) (xs : List Int) : List Value := xs.map (Value.int k)
def bools (xs : List Bool) : List Value := xs.map Value.bool
end Go.Sl
namespace Go.Sl
section
variable {C : Ctx} {Q : QT} {E : Env} {L L' F : List HProp} {ty : TypeId} {v : Value} {x y : Operand} {t t' : TypeId} {k : FloatKind} {a b r : Nat}
end
end Go.Sl
namespace Go.Sl
open Go.RowKit (Below)
def blk' (p : Option Addr) : Nat := match p with | some a => a.block | none => 0
def off' (p : Option Addr) : Nat := match p with | some a => a.off | none => 0
structure Ec (α : Type) where
  T : TypeId
  sz : Nat
  e : α → List Value
  d : α
  len : ∀ x, (e x).length = sz
  one : ∀ x, (e x).all Value.oneCell' = true
def Ec.g {α : Type} (c : Ec α) (l : List α) (i : Int) : α := l.getD i.toNat c.d
theorem Ec.g_nat {α : Type} (c : Ec α) {l : List α} {k : Nat} (h : k < l.length) : c.g l (k : Int) = l[k] := by simp [Ec.g, h]
abbrev ecI (T : TypeId) (k : IntKind) : Ec Int := ⟨T, 1, fun x => [.int k x], 0, fun _ => rfl, fun _ => rfl⟩
abbrev ecB (T : TypeId) : Ec Bool := ⟨T, 1, fun x => [.bool x], false, fun _ => rfl, fun _ => rfl⟩
def Row {α : Type} (c : Ec α) (p : Option Addr) (n cap : Nat) (l : List α) : HProp := fun w0 h => l.length = n ∧ Sl p n cap c.T c.sz (l.flatMap c.e) w0 h
def RdR {α : Type} (c : Ec α) (p : Option Addr) (n : Nat) (l : List α) : HProp := fun w0 h => l.length = n ∧ Rd p n c.sz (l.flatMap c.e) w0 h
theorem Row.rd {α : Type} {c : Ec α} {p : Option Addr} {n cap : Nat} {l : List α} {w0 : World} {h : Hp} (hr : Row c p n cap l w0 h) : RdR c p n l w0 h := ⟨hr.1, Sl.rd hr.2⟩
theorem flat_len {α : Type} (c : Ec α) (l : List α) : (l.flatMap c.e).length = l.length * c.sz := by
  induction l with
  | nil => simp
  | cons x l ih => simp only [List.flatMap_cons, List.length_append, c.len, ih, List.length_cons, Nat.succ_mul]; omega
theorem flat_get {α : Type} (c : Ec α) : ∀ (l : List α) (i f : Nat) (h : i < l.length), f < c.sz → (l.flatMap c.e)[i * c.sz + f]? = (c.e l[i])[f]?
  | x :: l, 0, f, h, hf => by simp only [List.flatMap_cons, Nat.zero_mul, Nat.zero_add, List.getElem_cons_zero]; rw [List.getElem?_append_left (by rw [c.len]; exact hf)]
  | x :: l, i + 1, f, h, hf => by
    simp only [List.flatMap_cons, List.getElem_cons_succ]
    rw [List.getElem?_append_right (by rw [c.len, Nat.succ_mul]; omega), c.len, show (i + 1) * c.sz + f - c.sz = i * c.sz + f by rw [Nat.succ_mul]; omega]
    exact flat_get c l i f (by simpa using h) hf
theorem flat_drop {α : Type} (c : Ec α) : ∀ (l : List α) (i : Nat), (l.flatMap c.e).drop (i * c.sz) = (l.drop i).flatMap c.e
  | l, 0 => by simp
  | [], i + 1 => by simp
  | x :: l, i + 1 => by
    simp only [List.flatMap_cons, List.drop_succ_cons]
    rw [show (i + 1) * c.sz = (c.e x).length + i * c.sz by rw [c.len, Nat.succ_mul]; omega, ← List.drop_drop, List.drop_left]
    exact flat_drop c l i
theorem flat_take {α : Type} (c : Ec α) : ∀ (l : List α) (i : Nat), (l.flatMap c.e).take (i * c.sz) = (l.take i).flatMap c.e
  | l, 0 => by simp
  | [], i + 1 => by simp
  | x :: l, i + 1 => by
    simp only [List.flatMap_cons, List.take_succ_cons]
    rw [show (i + 1) * c.sz = (c.e x).length + i * c.sz by rw [c.len, Nat.succ_mul]; omega, List.take_length_add_append]
    rw [flat_take c l i]
theorem flat_set {α : Type} (c : Ec α) : ∀ (l : List α) (i f : Nat) (h : i < l.length) (v : Value) (y : α), f < c.sz → (c.e l[i]).set f v = c.e y → (l.flatMap c.e).set (i * c.sz + f) v = (l.set i y).flatMap c.e
  | x :: l, 0, f, h, v, y, hf, e => by
    simp only [List.flatMap_cons, Nat.zero_mul, Nat.zero_add, List.set_cons_zero]
    rw [List.set_append_left _ _ (by rw [c.len]; exact hf)]
    rw [← e]; rfl
  | x :: l, i + 1, f, h, v, y, hf, e => by
    simp only [List.flatMap_cons, List.set_cons_succ]
    rw [List.set_append_right _ _ (by rw [c.len, Nat.succ_mul]; omega), c.len, show (i + 1) * c.sz + f - c.sz = i * c.sz + f by rw [Nat.succ_mul]; omega]
    rw [flat_set c l i f (by simpa using h) v y hf (by simpa using e)]
theorem flat_one {α : Type} (c : Ec α) (l : List α) : (l.flatMap c.e).all Value.oneCell' = true := by
  simp only [List.all_eq_true]
  intro v hv
  obtain ⟨x, _, hx⟩ := List.mem_flatMap.1 hv
  exact List.all_eq_true.1 (c.one x) v hx
def Has {α : Type} (w0 : World) (L : List HProp) (c : Ec α) (p : Option Addr) (n : Nat) (l : List α) : Prop := ∃ R, R ∈ L ∧ ∀ h, R w0 h → RdR c p n l w0 h
theorem own {α : Type} {w0 : World} {L : List HProp} {c : Ec α} {p : Option Addr} {n cap : Nat} {l : List α} (hm : Row c p n cap l ∈ L) : Has w0 L c p n l := ⟨_, hm, fun _ h => Row.rd h⟩
theorem rdH {α : Type} {w0 : World} {L : List HProp} {R : HProp} {c : Ec α} {p : Option Addr} {n : Nat} {l : List α} (hR : ∀ w0 h, R w0 h → RdR c p n l w0 h) (hm : R ∈ L) : Has w0 L c p n l := ⟨R, hm, fun h hh => hR w0 h hh⟩
theorem Has.fact {α : Type} {w0 w : World} {L : List HProp} {c : Ec α} {p : Option Addr} {n : Nat} {l : List α} (H : Has w0 L c p n l) (hi : Inv w0 L w) :
    l.length = n ∧ (n = 0 ∨ ∃ b o, p = some ⟨b, o, none⟩ ∧ ∀ i v, (l.flatMap c.e)[i]? = some v → w.cell? ⟨b, o + i, none⟩ = some v) := by
  obtain ⟨R, hm, hR⟩ := H
  obtain ⟨F, hb, h, a, h1, h2, d, l1, l2, hp, k⟩ := hi.mem hm
  obtain ⟨e0, e1, e2⟩ := hR h1 hp
  refine ⟨e0, e2.imp id ?_⟩
  rintro ⟨b, o, rfl, hc⟩
  exact ⟨b, o, rfl, fun i v hv => cellH_cell hb (fun b o e => a b o (l1 b o e)) (hc i v hv)⟩
theorem Has.len {α : Type} {w0 w : World} {L : List HProp} {c : Ec α} {p : Option Addr} {n : Nat} {l : List α} (H : Has w0 L c p n l) (hi : Inv w0 L w) : l.length = n := (H.fact hi).1
section
variable {C : Ctx} {Q : QT} {E : Env} {L L' F : List HProp} {ops : Array Oper} {rest : List Oper} {d : Nat} {ty : TypeId} {pos : String} {aft : Array Edge} {op : Op} {v : Value} {α : Type} {c : Ec α}
theorem w_cap {cd : Code} {p : Option Addr} {n cap : Nat} {l : List α} (hm : Row c p n cap l ∈ L) (k : n ≤ cap → Wp C cd Q E L) : Wp C cd Q E L := w_fact (p := n ≤ cap) (fun w hi => by
  obtain ⟨F, hb, h, a, h1, h2, d, l1, l2, hp, _⟩ := hi.mem hm
  rcases hp.2 with ⟨rfl, rfl, rfl, _⟩ | ⟨b, o, pre, post, _, _, _, _, _, e⟩
  · exact Nat.le_refl _
  · exact e) k
theorem OpV.of_inv {p : Prop} (h : ∀ w, Inv C.w0 L w → p) (k : p → OpV C op ty E L v L') : OpV C op ty E L v L' := fun d pos aft g a w ha hi => k (h w hi) d pos aft g a w ha hi
theorem r_index {x ix : Operand} {t by_ n cap : Nat} {p : Option Addr} {k : IntKind} {i : Int} {l : List α} (ht : sliceB C.P t = some (c.T, c.sz, by_)) (h : evalE E x = some (.slice p n cap)) (hi : evalE E ix = some (.int k i)) (H : Has C.w0 L c p n l) (h0 : 0 ≤ i) (hlt : i < n) :
    OpV C (.indexAddr t x ix) ty E L (.pointer (some ⟨blk' p, off' p + i.toNat * c.sz, none⟩)) L :=
  OpV.of_inv (p := ∃ b o, p = some ⟨b, o, none⟩) (fun w hi => by
    obtain ⟨_, e⟩ := H.fact hi
    rcases e with e | ⟨b, o, e, _⟩
    · omega
    · exact ⟨b, o, e⟩) (by
    rintro ⟨b, o, rfl⟩
    exact v_index i.toNat (by omega) ht h hi (by omega))
theorem r_loadF {x : Operand} {t n : Nat} {p : Option Addr} {i : Int} {l : List α} (f : Nat) (hs : scalarB C.P t = true) (hx : evalE E x = some (.pointer (some ⟨blk' p, off' p + i.toNat * c.sz + f, none⟩))) (H : Has C.w0 L c p n l) (h0 : 0 ≤ i) (hlt : i < n) (hf : Nat.blt f c.sz = true) (hv : (c.e (c.g l i))[f]? = some v) : OpV C (.load t x) ty E L v L :=
  v_loadW hs hx fun w hi => by
    obtain ⟨e1, e2⟩ := H.fact hi
    rcases e2 with e2 | ⟨b, o, e3, e4⟩
    · omega
    · subst e3
      show w.cell? ⟨b, o + i.toNat * c.sz + f, none⟩ = some v
      rw [Nat.add_assoc]
      refine e4 _ _ ?_
      rw [flat_get c l i.toNat f (by omega) (blt_lt hf), ← hv]
      simp [Ec.g, show i.toNat < l.length by omega]
theorem r_load {x : Operand} {t n : Nat} {p : Option Addr} {i : Int} {l : List α} (hs : scalarB C.P t = true) (hx : evalE E x = some (.pointer (some ⟨blk' p, off' p + i.toNat * c.sz, none⟩))) (H : Has C.w0 L c p n l) (h0 : 0 ≤ i) (hlt : i < n) (hf : Nat.blt 0 c.sz = true) (hv : (c.e (c.g l i))[0]? = some v) : OpV C (.load t x) ty E L v L :=
  r_loadF 0 hs hx H h0 hlt hf hv
theorem r_loadA {x : Operand} {t n : Nat} {p : Option Addr} {i : Int} {l : List α} {us : List Value} (hs : aggB C.P t = some c.sz) (hx : evalE E x = some (.pointer (some ⟨blk' p, off' p + i.toNat * c.sz, none⟩))) (H : Has C.w0 L c p n l) (h0 : 0 ≤ i) (hlt : i < n) (hv : c.e (c.g l i) = us) : OpV C (.load t x) ty E L (.agg us.toArray) L :=
  OpV.of_inv (p := ∃ b o, p = some ⟨b, o, none⟩) (fun w hi => by
    obtain ⟨_, e⟩ := H.fact hi
    rcases e with e | ⟨b, o, e, _⟩
    · omega
    · exact ⟨b, o, e⟩) (by
    rintro ⟨b, o, rfl⟩
    refine v_loadAggW hs hx (by rw [← hv, c.len]) fun w hi j v hj => ?_
    obtain ⟨e1, e2⟩ := H.fact hi
    rcases e2 with e2 | ⟨b', o', e3, e4⟩
    · omega
    · cases e3
      show w.cell? ⟨b, o + i.toNat * c.sz + j, none⟩ = some v
      rw [Nat.add_assoc]
      refine e4 _ _ ?_
      have hjl := (List.getElem?_eq_some_iff.1 hj).1
      rw [← hv, c.len] at hjl
      rw [flat_get c l i.toNat j (by omega) hjl, ← hj, ← hv]
      simp [Ec.g, show i.toNat < l.length by omega])
theorem r_storeF {x z : Operand} {t n cap : Nat} {p : Option Addr} {i : Int} {l : List α} {u : Value} (f : Nat) (y : α) (hs : scalarB C.P t = true) (hx : evalE E x = some (.pointer (some ⟨blk' p, off' p + i.toNat * c.sz + f, none⟩))) (hy : evalE E z = some u) (h1 : u.oneCell' = true)
    (hr : Rep L (Row c p n cap l) (Row c p n cap (l.set i.toNat y)) L') (h0 : 0 ≤ i) (hlt : i < n) (hf : Nat.blt f c.sz = true) (hv : (c.e (c.g l i)).set f u = c.e y) : OpV C (.store t x z) ty E L undef L' := by
  intro d pos aft g a w ha hi
  obtain ⟨F, p1, p2⟩ := hr.perm
  have hi1 := hi.perm p1
  obtain ⟨e1, e2⟩ := (own (w0 := C.w0) (L := Row c p n cap l :: F) mm0).fact hi1
  obtain ⟨b, o, rfl⟩ : ∃ b o, p = some ⟨b, o, none⟩ := by
    rcases e2 with e2 | ⟨b, o, e2, _⟩
    · omega
    · exact ⟨b, o, e2⟩
  have hi2 : Inv C.w0 (Sl (some ⟨b, o, none⟩) n cap c.T c.sz (l.flatMap c.e) :: F) w := hi1.imp (fun h hh => hh.2)
  have hil : i.toNat < l.length := by omega
  have hil2 : i.toNat * c.sz + f < (l.flatMap c.e).length := by
    rw [flat_len]
    have : (i.toNat + 1) * c.sz ≤ l.length * c.sz := Nat.mul_le_mul_right _ hil
    rw [Nat.succ_mul] at this
    have := blt_lt hf
    omega
  obtain ⟨w', hr', hi', _⟩ := v_storeS (C := C) (E := E) (ty := ty) (L := Sl (some ⟨b, o, none⟩) n cap c.T c.sz (l.flatMap c.e) :: F) (vs' := (l.set i.toNat y).flatMap c.e) (i.toNat * c.sz + f) hs hx hy h1 Rep.head (by show o + i.toNat * c.sz + f = _; omega) hil2 (flat_set c l i.toNat f hil u y (blt_lt hf) (by rw [← hv]; simp [Ec.g, hil])) d pos aft g a w ha hi2
  exact ⟨w', hr', (hi'.imp (fun h hh => ⟨by simp [e1], hh⟩)).perm p2, fun h => by cases h⟩
theorem r_store {x z : Operand} {t n cap : Nat} {p : Option Addr} {i : Int} {l : List α} {u : Value} (y : α) (hs : scalarB C.P t = true) (hx : evalE E x = some (.pointer (some ⟨blk' p, off' p + i.toNat * c.sz, none⟩))) (hy : evalE E z = some u) (h1 : u.oneCell' = true)
    (hr : Rep L (Row c p n cap l) (Row c p n cap (l.set i.toNat y)) L') (h0 : 0 ≤ i) (hlt : i < n) (hf : Nat.blt 0 c.sz = true) (hv : (c.e (c.g l i)).set 0 u = c.e y) : OpV C (.store t x z) ty E L undef L' :=
  r_storeF 0 y hs hx hy h1 hr h0 hlt hf hv
theorem r_appendX {s x : Operand} {t by_ n m cap cap2 : Nat} {p p2 : Option Addr} {l l2 : List α} {F : List HProp} {zs : List Value}
    (ht : sliceB C.P t = some (c.T, c.sz, by_)) (hz : zeroB C.P c.T = some zs) (hsz : Nat.ble 1 c.sz = true) (hby : Nat.ble 1 by_ = true)
    (hs : evalE E s = some (.slice p n cap)) (hx : evalE E x = some (.slice p2 m cap2)) (hL : Rem L (Row c p n cap l) F) (H : Has C.w0 L c p2 m l2) (hb : (n + m) * by_ ≤ 140737488355328) :
    OpX C (.call ⟨.builtin .append, [s, x].toArray, #[t, t]⟩) ty E L (fun v L' => ∃ p' cap', v = .slice p' (n + m) cap' ∧ L' = Row c p' (n + m) cap' (l ++ l2) :: F) := by
  intro d pos aft g a w K Qx ha hi hK
  obtain ⟨R, hm, hR⟩ := H
  have hl2 : l2.length = m := (Has.fact ⟨R, hm, hR⟩ hi).1
  have hl1 : l.length = n := ((own (w0 := C.w0) (L := Row c p n cap l :: F) mm0).fact (hi.perm hL.perm)).1
  by_cases hRe : R ∈ F
  · have hi2 : Inv C.w0 (Sl p n cap c.T c.sz (l.flatMap c.e) :: F) w := (hi.perm hL.perm).imp (fun h hh => hh.2)
    refine x_append (C := C) (E := E) (ty := ty) (vs := l.flatMap c.e) (ws := l2.flatMap c.e) (R := R) ht hz hsz hby hs hx Rem.head (List.mem_cons_of_mem _ hRe) (fun h hh => (hR h hh).2) (flat_one c l2) hb d pos aft g a w K Qx ha hi2 ?_
    rintro v L' w' ⟨p', cap', e1, e2⟩ hi'
    subst e2
    exact hK v _ w' ⟨p', cap', e1, rfl⟩ (hi'.imp (fun h hh => ⟨by simp [hl1, hl2], by rw [List.flatMap_append]; exact hh⟩))
  · have hRr : R = Row c p n cap l := by
      have := hL.perm.mem_iff.1 hm
      rcases List.mem_cons.1 this with e | e
      · exact e
      · exact absurd e hRe
    subst hRr
    have hi2 : Inv C.w0 (Sl p n cap c.T c.sz (l.flatMap c.e) :: F) w := (hi.perm hL.perm).imp (fun h hh => hh.2)
    refine x_append (C := C) (E := E) (ty := ty) (vs := l.flatMap c.e) (ws := l2.flatMap c.e) (R := Sl p n cap c.T c.sz (l.flatMap c.e)) ht hz hsz hby hs hx Rem.head (List.mem_cons_self) (fun h hh => (hR h ⟨hl1, hh⟩).2) (flat_one c l2) hb d pos aft g a w K Qx ha hi2 ?_
    rintro v L' w' ⟨p', cap', e1, e2⟩ hi'
    subst e2
    exact hK v _ w' ⟨p', cap', e1, rfl⟩ (hi'.imp (fun h hh => ⟨by simp [hl1, hl2], by rw [List.flatMap_append]; exact hh⟩))
theorem r_append {s x : Operand} {t by_ n m cap cap2 : Nat} {p p2 : Option Addr} {l l2 : List α} {F : List HProp} {zs : List Value}
    (ht : sliceB C.P t = some (c.T, c.sz, by_)) (hz : zeroB C.P c.T = some zs) (hsz : Nat.ble 1 c.sz = true) (hby : Nat.ble 1 by_ = true)
    (hs : evalE E s = some (.slice p n cap)) (hx : evalE E x = some (.slice p2 m cap2)) (hL : Rem L (Row c p n cap l) F) (H : Has C.w0 L c p2 m l2) (hb : (n + m) * by_ ≤ 140737488355328) (hd : Nat.blt d C.n = true)
    (k : ∀ p' cap', Ops C ops rest Q ((d, .slice p' (n + m) cap') :: E) (Row c p' (n + m) cap' (l ++ l2) :: F)) :
    Ops C ops (⟨some d, .call ⟨.builtin .append, [s, x].toArray, #[t, t]⟩, ty, pos, aft, none⟩ :: rest) Q E L :=
  o_any (r_appendX ht hz hsz hby hs hx hL H hb) hd fun v L' ⟨p', cap', e1, e2⟩ => by subst e1; subst e2; exact k p' cap'
theorem r_makeX {x y : Operand} {t by_ : Nat} {k1 k2 : IntKind} {i1 i2 : Int} {zs : List Value} (ht : sliceB C.P t = some (c.T, c.sz, by_)) (hz : zeroB C.P c.T = some zs) (hze : zs = c.e c.d) (hsz : Nat.ble 1 c.sz = true)
    (hx : evalE E x = some (.int k1 i1)) (hy : evalE E y = some (.int k2 i2)) (h0 : 0 ≤ i1) (hnc : i1 ≤ i2) (hb : i2 * by_ ≤ 281474976710656) (hby : Nat.ble 1 by_ = true) :
    OpX C (.makeSlice t x y) ty E L (fun v L' => ∃ b, v = .slice (some ⟨b, 0, none⟩) i1.toNat i2.toNat ∧ L' = Row c (some ⟨b, 0, none⟩) i1.toNat i2.toNat (List.replicate i1.toNat c.d) :: L) := by
  intro d pos aft g a w K Qx ha hi hK
  have hby := Nat.le_of_ble_eq_true hby
  have hb' : i2.toNat * by_ ≤ 281474976710656 := by
    have : ((i2.toNat * by_ : Nat) : Int) = i2 * by_ := by rw [Int.natCast_mul]; congr 1; omega
    omega
  have h63 : i2.toNat ≤ i2.toNat * by_ := Nat.le_mul_of_pos_right _ hby
  refine x_make (C := C) (E := E) (ty := ty) i1.toNat i2.toNat (by omega) (by omega) ht hz hsz hx hy (by omega) (by omega) hb' d pos aft g a w K Qx ha hi ?_
  rintro v L' w' ⟨b, e1, e2⟩ hi'
  subst e2
  refine hK v _ w' ⟨b, e1, rfl⟩ (hi'.imp (fun h hh => ⟨by simp, ?_⟩))
  have e : (List.replicate i1.toNat c.d).flatMap c.e = (List.replicate i1.toNat zs).flatten := by rw [hze, List.flatMap_replicate]
  rw [e]
  exact hh
theorem r_buildX {t by_ len : Nat} {parts : List (Nat × Operand)} {pv : List (Nat × Value)} {zs : List Value} (c : Ec α) (l : List α) (ht : sliceB C.P t = some (c.T, c.sz, by_)) (hz : zeroB C.P c.T = some zs) (hsz : Nat.ble 1 c.sz = true) (hsm : Nat.ble (len * c.sz) 16777216 = true)
    (hp : pevs E parts = some pv) (hf : Instr.fill (fun i => some (i * c.sz, c.sz)) ((List.replicate len zs).flatten.toArray) pv = some (l.flatMap c.e).toArray) (hl : l.length = len) :
    OpX C (.buildSlice t len parts.toArray) ty E L (fun v L' => ∃ b, v = .slice (some ⟨b, 0, none⟩) len len ∧ L' = Row c (some ⟨b, 0, none⟩) len len l :: L) := by
  intro d pos aft g a w K Qx ha hi hK
  refine x_buildSlice (C := C) (E := E) (ty := ty) ht hz hsz hsm (pevs_spec hp) hf (by rw [flat_len, hl]) d pos aft g a w K Qx ha hi ?_
  rintro v L' w' ⟨b, e1, e2⟩ hi'
  subst e2
  exact hK v _ w' ⟨b, e1, rfl⟩ (hi'.imp (fun h hh => ⟨hl, hh⟩))
theorem r_build {t by_ len : Nat} {parts : List (Nat × Operand)} {pv : List (Nat × Value)} {zs : List Value} (c : Ec α) (l : List α) (ht : sliceB C.P t = some (c.T, c.sz, by_)) (hz : zeroB C.P c.T = some zs) (hsz : Nat.ble 1 c.sz = true) (hsm : Nat.ble (len * c.sz) 16777216 = true)
    (hp : pevs E parts = some pv) (hf : Instr.fill (fun i => some (i * c.sz, c.sz)) ((List.replicate len zs).flatten.toArray) pv = some (l.flatMap c.e).toArray) (hl : l.length = len) (hd : Nat.blt d C.n = true)
    (k : ∀ b, Ops C ops rest Q ((d, .slice (some ⟨b, 0, none⟩) len len) :: E) (Row c (some ⟨b, 0, none⟩) len len l :: L)) : Ops C ops (⟨some d, .buildSlice t len parts.toArray, ty, pos, aft, none⟩ :: rest) Q E L :=
  o_any (r_buildX c l ht hz hsz hsm hp hf hl) hd fun v L' ⟨b, e1, e2⟩ => by subst e1; subst e2; exact k b
end
theorem Row.nil {α : Type} (c : Ec α) (w0 : World) (h : Hp) : Row c none 0 0 [] w0 h := ⟨rfl, Sl.nil _ _ _ _⟩
end Go.Sl
namespace Go.Sl
open Go.RowKit (Below)
section
variable {C : Ctx} {Q : QT} {E : Env} {L L' F : List HProp} {ops : Array Oper} {rest : List Oper} {d : Nat} {ty : TypeId} {pos : String} {aft : Array Edge} {op : Op} {v : Value} {α : Type} {c : Ec α}
end
end Go.Sl

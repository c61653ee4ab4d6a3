/- Walks of functions that the law reaches, and what they lean on; no conditions. -/
import Derived.Test.YtmbljkghkcgejaaGreatSlNet
set_option linter.unusedVariables false
set_option linter.unusedSimpArgs false
set_option maxRecDepth 100000
namespace Go.Sl
open Go.RowKit (Below)
structure gS where
 V : List (Yv → Value)
 P : List (Yv → Prop)
def gS.put (c : gS) (f : Yv → Value) (q : Yv → Prop) : gS := ⟨f :: c.V, q :: c.P⟩
def kO (l : List Oper) (E0 : Env) (p : et) (i : Nat) (c : gS) (y : Yv) : Env :=
 (p.iS.filterMap fun j => match ew l j with | some t => (match c.V[i - 1 - j]? with | some f => some (t, f y) | none => none) | none => none) ++ p.mb.filterMap fun s => match E0.get s with | some v => some (s, v) | none => none
def sx (l : List Oper) (n : Nat) (c : gS) (y : Yv) : Nat → Env → Env
 | 0, E => E
 | i + 1, E => match ew l i with | some t => (match c.V[n - 1 - i]? with | some f => (t, f y) :: sx l n c y i E | none => sx l n c y i E) | none => sx l n c y i E
structure dj (c : gS) (i : Nat) (j : Nat) (y : Yv) : Prop where
 val : ∃ f q, c.V[i - 1 - j]? = some f ∧ c.P[i - 1 - j]? = some q ∧ y j = f y ∧ q y
theorem dj.fact {c : gS} {i j : Nat} {y : Yv} (h : dj c i j y) {q : Yv → Prop} (hq : c.P[i - 1 - j]? = some q) : q y := by
 obtain ⟨f, q', _, e, _, k⟩ := h.val
 rw [hq] at e
 cases e
 exact k
section
variable {C : Ctx} {E0 : Env} {Q : QT} {L : List ae}
def gX (C : Ctx) (l : List Oper) (E0 : Env) (ts : List aZ) (A0 : List ae) : Nat → gS → List Oper → List et → (gS → Prop) → Prop
 | _, c, [], [], K => K c
 | i, c, o :: os, p :: ps, K => ∃ (f : Yv → Value) (q : Yv → Prop), Loc i p f ∧ Loc i p q ∧
   (∀ y M, (∀ j ∈ p.gq, dj c i j y) → Step C l.toArray o (kO l E0 p i c y) (eQ (ie ts i) y ++ (eQ (e9 ts i) y ++ (M ++ A0))) (fun v L' => f (eu y i v) = v ∧ q (eu y i v) ∧ L'.Perm (eQ (gT ts i) (eu y i v) ++ (eQ (e9 ts i) y ++ (M ++ A0))))) ∧ gX C l E0 ts A0 (i + 1) (c.put f q) os ps K
 | _, _, _, _, _ => False
section
variable {l : List Oper} {ts : List aZ} {i : Nat} {c : gS} {o : Oper} {os : List Oper} {ps : List et} {f : Yv → Value} {K : gS → Prop} {A0 : List ae}
theorem aM (h : K c) : gX C l E0 ts A0 i c [] [] K := h
theorem aR {p : et} (E : Yv → Env) (hE : ∀ y, kO l E0 p i c y = E y) (hc : ie ts i = []) (hr : e9 ts i = []) (hp : gT ts i = []) (h : ∀ y, (∀ j ∈ p.gq, dj c i j y) → ∀ L, Step C l.toArray o (E y) L (fun v' L' => v' = f y ∧ L' = L)) (hf : ∀ y v, f (eu y i v) = f y) (hloc : Loc i p f)
  (r : gX C l E0 ts A0 (i + 1) (c.put f (fun _ => True)) os ps K) : gX C l E0 ts A0 i c (o :: os) (p :: ps) K :=
 ⟨f, (fun _ => True), hloc, fun _ _ _ => rfl, fun y M h3 a w K' Q ha hi hK => by
  rw [hE] at ha
  simp only [hc, hr, hp, eQ, List.map_nil, List.nil_append] at hi hK
  exact h y h3 _ a w K' Q ha hi (fun v' L' w' ⟨e1, e2⟩ hi' => hK v' L' w' ⟨by rw [hf, e1], trivial, by rw [e2]⟩ hi'), r⟩
theorem gn {p : et} (R : Yv → List ae) (E : Yv → Env) (hE : ∀ y, kO l E0 p i c y = E y) (hc : ie ts i = []) (hr : ∀ y, eQ (e9 ts i) y = R y) (hp : gT ts i = []) (h : ∀ y A, (∀ j ∈ p.gq, dj c i j y) → Step C l.toArray o (E y) (R y ++ A) (fun v' L' => v' = f y ∧ L' = R y ++ A)) (hf : ∀ y v, f (eu y i v) = f y) (hloc : Loc i p f)
  (r : gX C l E0 ts A0 (i + 1) (c.put f (fun _ => True)) os ps K) : gX C l E0 ts A0 i c (o :: os) (p :: ps) K :=
 ⟨f, (fun _ => True), hloc, fun _ _ _ => rfl, fun y M h3 a w K' Q ha hi hK => by
  rw [hE] at ha
  rw [hc, hr] at hi
  rw [hp, hr] at hK
  exact h y (M ++ A0) h3 a w K' Q ha hi (fun v' L' w' ⟨e1, e2⟩ hi' => hK v' L' w' ⟨by rw [hf, e1], trivial, by rw [e2]; exact .refl _⟩ hi'), r⟩
theorem Ho {p : et} (T R M : Yv → List ae) (E : Yv → Env) (hE : ∀ y, kO l E0 p i c y = E y) (hc : ∀ y, eQ (ie ts i) y = T y) (hr : ∀ y, eQ (e9 ts i) y = R y) (hp : ∀ y, eQ (gT ts i) y = M y)
  (h : ∀ y A, (∀ j ∈ p.gq, dj c i j y) → Step C l.toArray o (E y) (T y ++ (R y ++ A)) (fun v' L' => v' = f y ∧ L'.Perm (M y ++ (R y ++ A)))) (hf : ∀ y v, f (eu y i v) = f y) (hM : ∀ y v, M (eu y i v) = M y) (hloc : Loc i p f)
  (r : gX C l E0 ts A0 (i + 1) (c.put f (fun _ => True)) os ps K) : gX C l E0 ts A0 i c (o :: os) (p :: ps) K :=
 ⟨f, (fun _ => True), hloc, fun _ _ _ => rfl, fun y M h3 a w K' Q ha hi hK => by
  rw [hE] at ha
  rw [hc, hr] at hi
  exact h y (M ++ A0) h3 a w K' Q ha hi (fun v' L' w' ⟨e1, e2⟩ hi' => hK v' L' w' ⟨by rw [hf, e1], trivial, by rw [hp, hM, hr]; exact e2⟩ hi'), r⟩
theorem fD {p : et} (g : Yv → Value → Value) (Pv : Yv → Value → Prop) (T R : Yv → List ae) (M : Yv → Value → List ae) (E : Yv → Env) (hE : ∀ y, kO l E0 p i c y = E y) (hc : ∀ y, eQ (ie ts i) y = T y) (hr : ∀ y, eQ (e9 ts i) y = R y) (hp : ∀ y, eQ (gT ts i) y = M y (y i))
  (h : ∀ y A, (∀ j ∈ p.gq, dj c i j y) → Step C l.toArray o (E y) (T y ++ (R y ++ A)) (fun v' L' => v' = g y v' ∧ Pv y v' ∧ L'.Perm (M y v' ++ (R y ++ A)))) (hg : ∀ y v u, g (eu y i v) u = g y u) (hP : ∀ y v u, Pv (eu y i v) u = Pv y u) (hM : ∀ y v u, M (eu y i v) u = M y u) (hloc : Loc i p (fun y => g y (y i))) (hlocP : Loc i p (fun y => Pv y (y i)))
  (r : gX C l E0 ts A0 (i + 1) (c.put (fun y => g y (y i)) (fun y => Pv y (y i))) os ps K) : gX C l E0 ts A0 i c (o :: os) (p :: ps) K :=
 ⟨(fun y => g y (y i)), (fun y => Pv y (y i)), hloc, hlocP, fun y M h3 a w K' Q ha hi hK => by
  rw [hE] at ha
  rw [hc, hr] at hi
  exact h y (M ++ A0) h3 a w K' Q ha hi (fun v' L' w' ⟨e1, e2, e3⟩ hi' => hK v' L' w' ⟨by show g (eu y i v') (eu y i v' i) = v'; rw [hg, ng]; exact e1.symm, by show Pv (eu y i v') (eu y i v' i); rw [hP, ng]; exact e2, by rw [hp, hM, ng, hr]; exact e3⟩ hi'), r⟩
end
theorem gX.get {l : List Oper} {ts : List aZ} {A0 : List ae} {K : gS → Prop} : ∀ {i : Nat} {c : gS} {os : List Oper} {ps : List et}, gX C l E0 ts A0 i c os ps K → c.V.length = i → c.P.length = i → (∀ (j : Nat) (p : et), ps[j]? = some p → ∀ d, d ∈ p.iS ∨ d ∈ p.gq → d < i + j) →
  ∃ (fs : List (Yv → Value)) (qs : List (Yv → Prop)), fs.length = os.length ∧ qs.length = os.length ∧ K ⟨fs.reverse ++ c.V, qs.reverse ++ c.P⟩ ∧
   ∀ j o p f q, os[j]? = some o → ps[j]? = some p → fs[j]? = some f → qs[j]? = some q → Loc (i + j) p f ∧ Loc (i + j) p q ∧
    (∀ y M, (∀ d ∈ p.gq, ∃ f' q', (c.V.reverse ++ fs)[d]? = some f' ∧ (c.P.reverse ++ qs)[d]? = some q' ∧ y d = f' y ∧ q' y) → Step C l.toArray o (uu l E0 p (c.V.reverse ++ fs) y) (eQ (ie ts (i + j)) y ++ (eQ (e9 ts (i + j)) y ++ (M ++ A0))) (fun v L' => f (eu y (i + j) v) = v ∧ q (eu y (i + j) v) ∧ L'.Perm (eQ (gT ts (i + j)) (eu y (i + j) v) ++ (eQ (e9 ts (i + j)) y ++ (M ++ A0)))))
 | i, c, [], [], h, _, _, _ => ⟨[], [], rfl, rfl, h, fun j o p f q h => by simp at h⟩
 | i, c, o :: os, p :: ps, ⟨f, q, h1, h2, h4, h5⟩, hV, hP, hd => by
  obtain ⟨fs, qs, l1, l2, hK, hrest⟩ := gX.get h5 (by simp [gS.put, hV]) (by simp [gS.put, hP]) (fun j p hp d hdd => by have := hd (j + 1) p (by simpa using hp) d hdd; omega)
  have e1 : (c.put f q).V.reverse ++ fs = c.V.reverse ++ f :: fs := by simp [gS.put]
  have e2 : (c.put f q).P.reverse ++ qs = c.P.reverse ++ q :: qs := by simp [gS.put]
  rw [e1, e2] at hrest
  refine ⟨f :: fs, q :: qs, by simp [l1], by simp [l2], by simpa [gS.put] using hK, fun j o' p' f' q' ho hp hf hq => ?_⟩
  cases j with
  | succ j =>
   rw [show i + (j + 1) = i + 1 + j by omega]
   exact hrest j o' p' f' q' (by simpa using ho) (by simpa using hp) (by simpa using hf) (by simpa using hq)
  | zero =>
   simp at ho hp hf hq
   subst ho; subst hp; subst hf; subst hq
   refine ⟨h1, h2, fun y A hkn => ?_⟩
   have hd0 := hd 0 p (by simp)
   have get0 : ∀ {β : Type} (xs ys : List β) (x : β) (d : Nat), xs.length = i → d < i → (xs.reverse ++ x :: ys)[d]? = xs[i - 1 - d]? := by
    intro β xs ys x d hx hlt
    rw [List.getElem?_append_left (by simp; omega), List.getElem?_reverse (by omega), hx]
   have henv : uu l E0 p (c.V.reverse ++ f :: fs) y = kO l E0 p i c y := by
    unfold uu kO
    congr 1
    have hdd : ∀ d ∈ p.iS, d < i := fun d hd => by have := hd0 d (.inl hd); omega
    revert hdd
    generalize p.iS = ds
    intro hdd
    induction ds with
    | nil => rfl
    | cons d ds ih =>
     simp only [List.filterMap_cons, get0 c.V fs f d hV (hdd d (by simp))]
     rw [ih (fun d hd => hdd d (by simp [hd]))]
     cases ew l d with
     | none => rfl
     | some t => cases c.V[i - 1 - d]? <;> rfl
   rw [henv]
   refine h4 y A (fun j hj => ⟨?_⟩)
   obtain ⟨f', q', e1, e2, e3, e4⟩ := hkn j hj
   have hlt := hd0 j (.inr hj)
   rw [get0 c.V fs f j hV (by omega)] at e1
   rw [get0 c.P qs q j hP (by omega)] at e2
   exact ⟨f', q', e1, e2, e3, e4⟩
 | i, c, [], p :: ps, h, _, _, _ => h.elim
 | i, c, o :: os, [], h, _, _, _ => h.elim
def sf (ps : List et) (ts : List aZ) : Prop := ∀ t ∈ ts, ∀ y y' : Yv, (∀ p, t.by_ = some p → ∀ j, j = p ∨ j ∈ eS ps p → y j = y' j) → t.a y = t.a y'
theorem jb {ps : List et} : sf ps [] := fun t h => by cases h
theorem dV {ps : List et} {ts : List aZ} {u : Option Nat} {r : List Nat} (a : ae) (h : sf ps ts) : sf ps (⟨fun _ => a, none, u, r⟩ :: ts) := fun t ht y y' hy => by
 rcases List.mem_cons.1 ht with rfl | ht
 ·rfl
 ·exact h t ht y y' hy
theorem ea {ps : List et} {ts : List aZ} {u : Option Nat} {r : List Nat} {p : Nat} {a : Yv → ae} (gq : List Nat) (ha : eS ps p = gq) (h1 : ∀ y y' : Yv, (∀ j, j = p ∨ j ∈ gq → y j = y' j) → a y = a y') (h : sf ps ts) : sf ps (⟨a, some p, u, r⟩ :: ts) := fun t ht y y' hy => by
 rcases List.mem_cons.1 ht with rfl | ht
 ·exact h1 y y' (fun j hj => hy p rfl j (by rw [ha]; exact hj))
 ·exact h t ht y y' hy
theorem mL {l : List Oper} {id : Nat} (ps : List et) (ts : List aZ) (A : List ae) (hm : C.P.follows .mixedOrders = true) (hB : wJ C l ps ts = true) (hps : ps.length = l.length)
  (h0 : ∀ y, L.Perm (eQ (p9 ts) y ++ A)) (hlocT : sf ps ts)
  (how : gX C l E0 ts A 0 ⟨[], []⟩ l ps (fun c => ∀ y, (∀ j, j < l.length → dj c l.length j y) → Q .normal (sx l l.length c y l.length E0) (eQ (tU ts) y ++ A))) (hX : ∀ ch E L, C.X ch L → Q (.panic ch) E L := by exact fun _ _ _ h => h) : Wp C (.region id l.toArray true) Q E0 L := by
 have hpar : ∀ (j : Nat), j < l.length → ∃ o p, l[j]? = some o ∧ ps[j]? = some p ∧ vu C l ps [] j o p := fun j hj => by
  unfold wJ at hB
  simp only [Bool.and_eq_true] at hB
  exact uQ (List.all_eq_true.1 hB.1 j (List.mem_range.2 hj))
 have hdeps : ∀ (j : Nat) (p : et), ps[j]? = some p → ∀ d, d ∈ p.iS ∨ d ∈ p.gq → d < 0 + j := by
  intro j p hp d hd
  have hj : j < l.length := by rw [← hps]; exact (List.getElem?_eq_some_iff.1 hp).1
  obtain ⟨o', p', ho', hp', ok⟩ := hpar j hj
  rw [hp] at hp'
  cases hp'
  have := (ok.gq d (hd.elim (ok.iS d) (fun h => h))).1
  omega
 obtain ⟨V, P, lV, lP, hk, hget⟩ := how.get rfl rfl hdeps
 simp only [List.reverse_nil, List.nil_append, List.append_nil] at hk hget
 have hVP : ∀ i, i < l.length → ∃ p f q, ps[i]? = some p ∧ V[i]? = some f ∧ P[i]? = some q := fun i hi => ⟨ps[i], V[i], P[i], List.getElem?_eq_getElem (by omega), List.getElem?_eq_getElem (by omega), List.getElem?_eq_getElem (by omega)⟩
 refine Jz (A := A) (hX := hX) ps ts (fun i y => ∃ f q, V[i]? = some f ∧ P[i]? = some q ∧ y i = f y ∧ q y) hm hB hps ⟨fun _ => undef, h0 _⟩ ?_ hlocT ?_ ?_
 ·rintro i y y' h ⟨f, q, e1, e2, e3, e4⟩
  have hi : i < l.length := by rw [← lV]; exact (List.getElem?_eq_some_iff.1 e1).1
  obtain ⟨p, f', q', hp, hf, hq⟩ := hVP i hi
  obtain ⟨h1, h2, _⟩ := hget i _ p f q (List.getElem?_eq_getElem hi) hp e1 e2
  rw [Nat.zero_add] at h1 h2
  have hanc : ∀ j, j = i ∨ j ∈ p.gq → y j = y' j := fun j hj => h j (hj.imp (fun h => h) (fun h => by simp [eS, hp, h]))
  exact ⟨f, q, e1, e2, by rw [← hanc i (.inl rfl), e3]; exact h1 y y' hanc, by rw [← h2 y y' hanc]; exact e4⟩
 ·intro i hi o p ho hp y A' h3
  obtain ⟨p', f, q, hp', hf, hq⟩ := hVP i hi
  rw [hp] at hp'
  cases hp'
  have hdep : ∀ j ∈ p.iS, j ∈ p.gq := by
   obtain ⟨o', p', ho', hp', ok⟩ := hpar i hi
   rw [hp] at hp'
   cases hp'
   exact ok.iS
  have henv : rD l E0 p y = uu l E0 p V y := by
   unfold rD uu
   congr 1
   revert hdep
   generalize p.iS = ds
   intro hdep
   induction ds with
   | nil => rfl
   | cons j ds ih =>
    obtain ⟨fj, qj, e1, e2, e3, e4⟩ := h3 j (hdep j (by simp))
    simp only [List.filterMap_cons]
    cases hd : ew l j with
    | none => simpa using ih (fun j hj => hdep j (by simp [hj]))
    | some t =>
     simp only [e1, e3]
     rw [ih (fun j hj => hdep j (by simp [hj]))]
  rw [henv]
  obtain ⟨_, _, hst⟩ := hget i o p f q ho hp hf hq
  rw [Nat.zero_add] at hst
  intro a w K Qx ha hinv hK
  refine hst y A' h3 a w K Qx ha hinv ?_
  rintro v' M w' ⟨e1, e2, hM⟩ hi'
  exact hK v' M w' ⟨⟨f, q, hf, hq, by rw [ng, e1], e2⟩, hM⟩ hi'
 ·intro y hy
  have rev : ∀ {β : Type} (xs : List β) (j : Nat), xs.length = l.length → j < l.length → xs.reverse[l.length - 1 - j]? = xs[j]? := by
   intro β xs j hx hj
   rw [List.getElem?_reverse (by omega)]
   congr 1
   omega
  have h := hk y (fun j hj => by
   obtain ⟨f, q, e1, e2, e3, e4⟩ := hy j hj
   exact ⟨f, q, by rw [rev V j lV hj]; exact e1, by rw [rev P j lP hj]; exact e2, e3, e4⟩)
  have hfin : ∀ n, n ≤ l.length → sx l l.length ⟨V.reverse, P.reverse⟩ y n E0 = sA l y n E0 := by
   intro n
   induction n with
   | zero => intro _; rfl
   | succ n ih =>
    intro hn
    obtain ⟨f, q, e1, e2, e3, e4⟩ := hy n (by omega)
    simp only [sx, sA]
    rw [ih (by omega), rev V n lV (by omega), e1, e3]
    cases ew l n <;> rfl
  rw [hfin _ (Nat.le_refl _)] at h
  exact h
end
end Go.Sl

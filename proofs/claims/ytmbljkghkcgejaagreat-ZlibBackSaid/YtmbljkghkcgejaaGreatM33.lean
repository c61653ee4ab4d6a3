/- Walks of functions that the law reaches, and what they lean on; no conditions. -/
import Derived.Test.YtmbljkghkcgejaaGreatM32
import Derived.KernelRfl
set_option linter.unusedVariables false
set_option linter.unusedSimpArgs false
set_option maxRecDepth 100000
namespace Go.aa
open Go.af Go.ab
def pM : List Int := [3, 4, 5, 6, 7, 8, 9, 10, 11, 13, 15, 17, 19, 23, 27, 31, 35, 43, 51, 59, 67, 83, 99, 115, 131, 163, 195, 227, 258]
def pL : List Int := [0, 0, 0, 0, 0, 0, 0, 0, 1, 1, 1, 1, 2, 2, 2, 2, 3, 3, 3, 3, 4, 4, 4, 4, 5, 5, 5, 5, 0]
theorem GS {s : Int} (h : 0 ≤ s ∧ s < 29) : pM.getD s.toNat 0 = j9 s ∧ pL.getD s.toNat 0 = (ga s : Int) := by
 have : ∀ k : Nat, k < 29 → pM.getD k 0 = j9 k ∧ pL.getD k 0 = (ga k : Int) := by decide
 have h2 := this s.toNat (by omega)
 rw [Int.toNat_of_nonneg h.1] at h2
 exact h2
theorem Cw {s : Int} (h : 0 ≤ s ∧ s < 29) : 3 ≤ j9 s ∧ j9 s ≤ 258 ∧ ga s ≤ 5 := by
 have : ∀ k : Nat, k < 29 → 3 ≤ j9 k ∧ j9 k ≤ 258 ∧ ga k ≤ 5 := by decide
 have h2 := this s.toNat (by omega)
 rw [Int.toNat_of_nonneg h.1] at h2
 exact h2
theorem Dy {s : Int} (h : 0 ≤ s ∧ s < 30) : 1 ≤ mf s ∧ mf s < 40000 ∧ gH s ≤ 13 := by
 have : ∀ k : Nat, k < 30 → 1 ≤ mf k ∧ mf k < 40000 ∧ gH k ≤ 13 := by decide
 have h2 := this s.toNat (by omega)
 rw [Int.toNat_of_nonneg h.1] at h2
 exact h2
structure Dn (B : List Int) (mo : Int) (S S' : St) : Prop where
 n6 : eD B mo S S'
 ok : Ok B mo S'
 kind : S'.kind = -1
 aq : S'.aq = 0
 ended : S'.ended = S'.last
 last : S'.last = S.last
structure In (B : List Int) (mo : Int) (S s : St) : Prop where
 n6 : eD B mo S s
 ok : Ok B mo s
 kind : s.kind = S.kind
 aq : s.aq = 0
 ended : s.ended = false
 last : s.last = S.last
 lits : s.lits = S.lits
 cH : s.cH = S.cH
section
variable {B : List Int} {mo e : Int} {S s s2 : St}
end
end Go.aa
namespace Go.aa
open Go.af Go.ab
inductive Bl (B : List Int) (mo : Int) : St → Except Int St → Prop
 | done {s : St} : s.kind = -1 → Bl B mo s (.ok s)
 | step {s s' : St} {o : Except Int St} : ¬ s.kind = -1 → one B mo s = .ok s' → Bl B mo s' o → Bl B mo s o
 | fail {s : St} {e : Int} : ¬ s.kind = -1 → one B mo s = .error e → Bl B mo s (.error e)
section
variable {B : List Int} {mo e : Int} {s s2 : St} {o : Except Int St}
theorem Bl.end_ (h : Bl B mo s o) (k : s.kind = -1) : o = .ok s := by
 cases h with
 | done _ => rfl
 | step h _ _ => exact (h k).elim
 | fail h _ => exact (h k).elim
theorem Bl.next (h : Bl B mo s o) (k : ¬ s.kind = -1) (p : one B mo s = .ok s2) : Bl B mo s2 o := by
 cases h with
 | done q => exact (k q).elim
 | step _ h2 h3 => rw [h2] at p; cases p; exact h3
 | fail _ h2 => rw [h2] at p; cases p
theorem Bl.err (h : Bl B mo s o) (k : ¬ s.kind = -1) (p : one B mo s = .error e) : o = .error e := by
 cases h with
 | done q => exact (k q).elim
 | step _ h2 h3 => rw [h2] at p; cases p
 | fail _ h2 => rw [h2] at p; cases p; rfl
theorem Ee (k : ¬ s.kind = -1) (he : s.ended = false) (p : one B mo s = .ok s2) : s2.last = s.last ∧ ((¬ s2.kind = -1 ∧ s2.ended = false) ∨ (s2.kind = -1 ∧ s2.aq = 0 ∧ s2.ended = s2.last)) := by
 by_cases hc : 0 < s.aq
 ·have h : eE mo { s with aq := s.aq - 1 } (s.out.getD (s.out.length - s.aL) 0) = .ok s2 := by unfold one at p; rw [if_pos hc] at p; exact p
  obtain ⟨_, rfl⟩ := my h
  exact ⟨rfl, .inl ⟨k, he⟩⟩
 by_cases k0 : s.kind = 0
 ·by_cases hl : s.left = 0
  ·rw [oy hc k k0 hl] at p; cases p; exact ⟨rfl, .inr ⟨rfl, by show s.aq = 0; omega, rfl⟩⟩
  ·by_cases hx : 8 * B.length < s.at_ + 8
   ·rw [qB hc k k0 hl hx] at p; cases p
   ·rw [oG hc k k0 hl (by omega)] at p
    obtain ⟨_, rfl⟩ := my p
    exact ⟨rfl, .inl ⟨k, he⟩⟩
 ·rw [iw hc k k0] at p
  rcases eT (sym s.lits B s.at_) with ⟨e, hs⟩ | ⟨⟨y, a1⟩, hs⟩
  ·rw [rI hs] at p; cases p
  by_cases hy : y < 256
  ·rw [kp hs hy] at p
   obtain ⟨_, rfl⟩ := my p
   exact ⟨rfl, .inl ⟨k, he⟩⟩
  by_cases hy2 : y = 256
  ·rw [lS hs hy2] at p; cases p; exact ⟨rfl, .inr ⟨rfl, by show s.aq = 0; omega, rfl⟩⟩
  rcases eT (eo B (y - 257) a1) with ⟨e, hn⟩ | ⟨⟨n, a2⟩, hn⟩
  ·rw [pF hs (by omega) hn] at p; cases p
  rcases eT (dr B s.cH a2) with ⟨e, hf⟩ | ⟨⟨f, a3⟩, hf⟩
  ·rw [nT hs (by omega) hn hf] at p; cases p
  by_cases hfo : f ≤ s.out.length
  ·rw [pQ hs (by omega) hn hf hfo] at p; cases p; exact ⟨rfl, .inl ⟨k, he⟩⟩
  ·rw [rF hs (by omega) hn hf hfo] at p; cases p
theorem w5 {s : St} (hs : (¬ s.kind = -1 ∧ s.ended = false) ∨ (s.kind = -1 ∧ s.aq = 0 ∧ s.ended = s.last)) (k : ¬ s.kind = -1) : s.ended = false := by
 rcases hs with ⟨_, h⟩ | ⟨h, _⟩
 ·exact h
 ·exact (k h).elim
structure Left (B : List Int) (mo : Int) (s s2 : St) : Prop where
 n6 : eD B mo s s2
 ok : Ok B mo s2
 kind : s2.kind = -1
 aq : s2.aq = 0
 ended : s2.ended = s2.last
 last : s2.last = s.last
 less : mu B s2 ≤ mu B s
theorem Iy (hB : aY B) (h : Bl B mo s o) : Ok B mo s → ((¬ s.kind = -1 ∧ s.ended = false) ∨ (s.kind = -1 ∧ s.aq = 0 ∧ s.ended = s.last)) → (∀ s2, o = .ok s2 → Left B mo s s2) ∧ (∀ e, o = .error e → ia B mo s (.error e)) := by
 induction h with
 | done k => intro hok hs; exact ⟨fun s2 e => by
   cases e
   rcases hs with ⟨h, _⟩ | ⟨_, h2, h3⟩
   ·exact (h k).elim
   ·exact ⟨.refl _ _ _, hok, k, h2, h3, rfl, Nat.le_refl _⟩, fun e h => by cases h⟩
 | step k p h ih =>
  intro hok hs
  have he := w5 hs k
  have hg := dZ hB hok p
  have hk := Ee k he p
  obtain ⟨h1, h2⟩ := ih hg.ok hk.2
  refine ⟨fun s2 e => ?_, fun e q => .step he p (h2 e q)⟩
  have hl := h1 s2 e
  have := hg.less
  exact ⟨(eD.one he p).trans hl.n6, hl.ok, hl.kind, hl.aq, hl.ended, hl.last.trans hk.1, Nat.le_trans hl.less (Nat.le_of_lt this)⟩
 | fail k p =>
  intro hok hs
  have he := w5 hs k
  exact ⟨fun s2 e => (by cases e), fun e q => by cases q; exact .fail he p⟩
theorem Lb (hB : aY B) : ∀ (k : Nat) {s : St}, mu B s ≤ k → Ok B mo s → ∃ o, Bl B mo s o := by
 intro k
 induction k with
 | zero =>
  intro s hk hok
  by_cases h1 : s.kind = -1
  ·exact ⟨_, .done h1⟩
  rcases eT (one B mo s) with ⟨e, h⟩ | ⟨s2, h⟩
  ·exact ⟨_, .fail h1 h⟩
  ·have := (dZ hB hok h).less; omega
 | succ k ih =>
  intro s hk hok
  by_cases h1 : s.kind = -1
  ·exact ⟨_, .done h1⟩
  rcases eT (one B mo s) with ⟨e, h⟩ | ⟨s2, h⟩
  ·exact ⟨_, .fail h1 h⟩
  ·have hg := dZ hB hok h
   have := hg.less
   obtain ⟨o, ho⟩ := ih (show mu B s2 ≤ k by omega) hg.ok
   exact ⟨o, .step h1 h ho⟩
end
def BO (B : List Int) (mo : Int) (S : St) (o : Except Int St) : Prop := (∃ e, cT B S = .error e ∧ o = .error e) ∨ (∃ S1, cT B S = .ok S1 ∧ Bl B mo S1 o)
section
variable {B : List Int} {mo e : Int} {S S1 : St} {o : Except Int St}
theorem BO.err (h : BO B mo S o) (k : cT B S = .error e) : o = .error e := by
 rcases h with ⟨e', h1, h2⟩ | ⟨S', h1, _⟩
 ·rw [h1] at k; cases k; exact h2
 ·rw [h1] at k; cases k
theorem BO.go (h : BO B mo S o) (k : cT B S = .ok S1) : Bl B mo S1 o := by
 rcases h with ⟨e', h1, h2⟩ | ⟨S', h1, h2⟩
 ·rw [h1] at k; cases k
 ·rw [h1] at k; cases k; exact h2
theorem Az (k : S.kind = -1) (h : cT B S = .ok S1) : S1.last = decide (az B S.at_ 1 = 1) ∧ ¬ S1.kind = -1 ∧ S1.ended = S.ended ∧ S1.aq = S.aq := by
 unfold cT at h
 split at h
 ·cases h
 split at h
 ·split at h
  ·cases h
  split at h
  ·cases h; exact ⟨rfl, (fun h => absurd (show (0 : Int) = -1 from h) (by decide)), rfl, rfl⟩
  ·cases h
 split at h
 ·cases h; exact ⟨rfl, (fun h => absurd (show (1 : Int) = -1 from h) (by decide)), rfl, rfl⟩
 split at h
 ·split at h
  ·cases h
  ·cases h; exact ⟨rfl, (fun h => absurd (show (2 : Int) = -1 from h) (by decide)), rfl, rfl⟩
 ·cases h
theorem ko (hB : aY B) (hok : Ok B mo S) (k : S.kind = -1) (c : S.aq = 0) (he : S.ended = false) (h : BO B mo S o) : (∀ s2, o = .ok s2 → eD B mo S s2 ∧ Ok B mo s2 ∧ s2.kind = -1 ∧ s2.aq = 0 ∧ s2.ended = decide (az B S.at_ 1 = 1) ∧ mu B s2 < mu B S) ∧ (∀ e, o = .error e → ia B mo S (.error e)) := by
 have hone := jd (B := B) (mo := mo) (s := S) (by omega) k
 rcases h with ⟨e', h1, h2⟩ | ⟨S', h1, h2⟩
 ·refine ⟨fun s2 q => (by rw [h2] at q; cases q), fun e q => ?_⟩
  rw [h2] at q; cases q
  exact .fail he (hone.trans h1)
 ·have hp := hone.trans h1
  have hg := dZ hB hok hp
  obtain ⟨b1, b2, b3, b4⟩ := Az k h1
  obtain ⟨g1, g2⟩ := Iy hB h2 hg.ok (.inl ⟨b2, b3.trans he⟩)
  refine ⟨fun s2 q => ?_, fun e q => .step he hp (g2 e q)⟩
  have hl := g1 s2 q
  exact ⟨(eD.one he hp).trans hl.n6, hl.ok, hl.kind, hl.aq, by rw [hl.ended, hl.last, b1], Nat.lt_of_le_of_lt hl.less hg.less⟩
theorem LK (hB : aY B) (hok : Ok B mo S) (k : S.kind = -1) (c : S.aq = 0) : ∃ o, BO B mo S o := by
 rcases eT (cT B S) with ⟨e, h⟩ | ⟨S1, h⟩
 ·exact ⟨_, .inl ⟨e, h, rfl⟩⟩
 ·have hg := dZ hB hok ((jd (by omega) k).trans h)
  obtain ⟨o, ho⟩ := Lb hB _ (Nat.le_refl _) hg.ok
  exact ⟨o, .inr ⟨S1, h, ho⟩⟩
end
section
variable {B ds : List Int} {s d : Int} {a a3 n : Nat}
theorem HQ (h : s < 29) (hx : 8 * B.length < a + ga s) : eo B s a = .error 2 := by unfold eo; rw [if_neg (by omega)]; exact if_pos hx
theorem zM (h : s < 29) (hx : a + ga s ≤ 8 * B.length) (hn : j9 s + az B a (ga s) = (n : Int)) : eo B s a = .ok ((n : Int), a + ga s) := by unfold eo; rw [if_neg (by omega), hn]; exact if_neg (by omega)
theorem EM (hs : sym ds B a = .ok (d, a3)) (h : d < 30) (hx : 8 * B.length < a3 + gH d) : dr B ds a = .error 2 := by unfold dr; rw [hs]; simp only; rw [if_neg (by omega)]; exact if_pos hx
theorem FC (hs : sym ds B a = .ok (d, a3)) (h : d < 30) (hx : a3 + gH d ≤ 8 * B.length) (hn : mf d + az B a3 (gH d) = (n : Int)) : dr B ds a = .ok ((n : Int), a3 + gH d) := by unfold dr; rw [hs]; simp only; rw [if_neg (by omega), hn]; exact if_neg (by omega)
end
end Go.aa
namespace Go.aa
theorem px : ∀ k, k < 288 → bF.take k ++ [if k < 144 then 8 else if k < 256 then 9 else if k < 280 then 7 else 8] = bF.take (k + 1) := by decide +kernel
theorem Jp {k : Nat} (h : k < 144) : bF.take k ++ [8] = bF.take (k + 1) := by have := px k (by omega); rw [if_pos h] at this; exact this
theorem IV {k : Nat} (h : 144 ≤ k ∧ k < 256) : bF.take k ++ [9] = bF.take (k + 1) := by have := px k (by omega); rw [if_neg (by omega), if_pos h.2] at this; exact this
theorem JG {k : Nat} (h : 256 ≤ k ∧ k < 280) : bF.take k ++ [7] = bF.take (k + 1) := by have := px k (by omega); rw [if_neg (by omega), if_neg (by omega), if_pos h.2] at this; exact this
theorem H9 {k : Nat} (h : 280 ≤ k ∧ k < 288) : bF.take k ++ [8] = bF.take (k + 1) := by have := px k (by omega); rw [if_neg (by omega), if_neg (by omega), if_neg (by omega)] at this; exact this
end Go.aa
namespace Go.aa
theorem tu {s : Int} (h : s = 16) : cW s = 2 := if_pos h
theorem Dd {s : Int} (h : s = 17) : cW s = 3 := by subst h; rfl
theorem DJ {s : Int} (h : s = 18) : cW s = 7 := by subst h; rfl
theorem oN {s : Int} (h : ¬ s = 18) : gV s = 3 := if_neg h
theorem By {s : Int} (h : s = 18) : gV s = 11 := if_pos h
theorem tw {s : Int} {l : List Int} (h : s = 16) : gx s l = l.getD (l.length - 1) 0 := if_pos h
theorem vI {s : Int} {l : List Int} (h : ¬ s = 16) : gx s l = 0 := if_neg h
theorem nX {s : Int} : cW s ≤ 7 ∧ 3 ≤ gV s ∧ gV s ≤ 11 := by
 unfold cW gV
 split <;> split <;> (try split) <;> omega
theorem Nk {s : Int} (l : List Int) (h : 16 ≤ s ∧ s < 19) : (s = 16 ∧ l.length = 0) ∨ (s = 16 ∧ 0 < l.length) ∨ s = 17 ∨ s = 18 := by omega
theorem mN {B l : List Int} {s : Int} {a n : Nat} (h : ¬ s < 16) (hx : a + cW s ≤ 8 * B.length) (hl : ¬ (s = 16 ∧ l.length = 0)) (hn : gV s + af.az B a (cW s) = (n : Int)) : rep B s l a = .ok (gx s l, (n : Int), a + cW s) := by
 rw [sS h (by omega) (fun q => hl ⟨q.1, by rw [q.2]; rfl⟩), hn]
end Go.aa
namespace Go.aa
open Go.af
theorem Ag {B : List Int} {mo : Int} {S : St} (hB : aY B) (hok : Ok B mo S) (k : S.kind = -1) (c : S.aq = 0) : (∃ e, BO B mo S (.error e)) ∨ ∃ S2, BO B mo S (.ok S2) := by
 obtain ⟨o, h⟩ := LK hB hok k c
 cases o with
 | error e => exact .inl ⟨e, h⟩
 | ok s => exact .inr ⟨s, h⟩
theorem Af {B : List Int} {mo e : Int} {S : St} (hB : aY B) (hok : Ok B mo S) (k : S.kind = -1) (c : S.aq = 0) (he : S.ended = false) (h : BO B mo S (.error e)) : e ≠ 0 := GX ((ko hB hok k c he h).2 e rfl) rfl
end Go.aa
namespace Go.aa
open Go.af Go.ab
def run (B : List Int) (mo : Int) : Nat → St → Option Oc
 | 0, _ => none
 | f + 1, s => if s.ended = true then some (.ok (s.out, (s.at_ + 7) / 8)) else match one B mo s with
  | .error e => some (.error e)
  | .ok s' => run B mo f s'
theorem Cn {B : List Int} {mo : Int} : ∀ {f : Nat} {s : St} {o : Oc}, run B mo f s = some o → ia B mo s o := by
 intro f
 induction f with
 | zero => intro s o h; cases h
 | succ f ih =>
  intro s o h
  unfold run at h
  split at h
  ·rename_i he; cases h; exact .done he
  ·rename_i he
   split at h
   ·rename_i e h1; cases h; exact .fail (by simpa using he) h1
   ·rename_i s' h1; exact .step (by simpa using he) h1 (ih h)
def Km (B : List Int) (mo : Int) (f : Nat) (q : List Int × Int × Int) : Bool := match run B mo f start with
 | some o => decide (Ou o = q)
 | none => false
theorem DX {B : List Int} {mo : Int} {f : Nat} {q : List Int × Int × Int} (hm : 0 ≤ mo) (h : Km B mo f q = true) : gU B mo q := by
 unfold Km at h
 split at h
 ·rename_i o ho; exact .inr ⟨hm, o, Cn ho, (of_decide_eq_true h).symm⟩
 ·cases h
end Go.aa
namespace Go.aa
end Go.aa
namespace Go.aa
open Go.af Go.ab
section
variable {B : List Int} {mo mo' y : Int} {s s2 : St}
theorem yj (h : eE mo s y = .ok s2) : ((s2.out.length : Int) ≤ mo' → eE mo' s y = .ok s2) ∧ (mo' < s2.out.length → eE mo' s y = .error 6) := by
 obtain ⟨k, rfl⟩ := my h
 have hl : ({ s with out := s.out ++ [y] } : St).out.length = s.out.length + 1 := by simp
 rw [hl]
 exact ⟨fun h => kR (by omega), fun h => kx (by omega)⟩
theorem Ez (h : eG B mo s = .ok s2) (hs : (s.out.length : Int) ≤ mo') : ((s2.out.length : Int) ≤ mo' → eG B mo' s = .ok s2) ∧ (mo' < s2.out.length → eG B mo' s = .error 6) := by
 rcases eT (sym s.lits B s.at_) with ⟨e, h1⟩ | ⟨⟨y, a⟩, h1⟩
 ·rw [rI h1] at h; cases h
 by_cases hy : y < 256
 ·rw [kp h1 hy] at h ⊢; exact yj h
 by_cases hy2 : y = 256
 ·rw [lS h1 hy2] at h ⊢; cases h; exact ⟨fun _ => rfl, fun k => by simp only at k; omega⟩
 rcases eT (eo B (y - 257) a) with ⟨e, hn⟩ | ⟨⟨n, a2⟩, hn⟩
 ·rw [pF h1 (by omega) hn] at h; cases h
 rcases eT (dr B s.cH a2) with ⟨e, hf⟩ | ⟨⟨f, a3⟩, hf⟩
 ·rw [nT h1 (by omega) hn hf] at h; cases h
 by_cases hfo : f ≤ s.out.length
 ·rw [pQ h1 (by omega) hn hf hfo] at h ⊢; cases h; exact ⟨fun _ => rfl, fun k => by simp only at k; omega⟩
 ·rw [rF h1 (by omega) hn hf hfo] at h; cases h
theorem vX (h : one B mo s = .ok s2) (hs : (s.out.length : Int) ≤ mo') : ((s2.out.length : Int) ≤ mo' → one B mo' s = .ok s2) ∧ (mo' < s2.out.length → one B mo' s = .error 6) := by
 by_cases hc : 0 < s.aq
 ·unfold one at h ⊢; rw [if_pos hc] at h ⊢; exact yj h
 by_cases hk : s.kind = -1
 ·rw [jd hc hk] at h ⊢
  refine ⟨fun _ => h, fun k => ?_⟩
  exfalso
  have : s2.out = s.out := by
   unfold cT at h
   split at h
   ·cases h
   split at h
   ·split at h
    ·cases h
    split at h
    ·cases h; rfl
    ·cases h
   split at h
   ·cases h; rfl
   split at h
   ·split at h
    ·cases h
    ·cases h; rfl
   ·cases h
  rw [this] at k; omega
 by_cases hk0 : s.kind = 0
 ·by_cases hl : s.left = 0
  ·rw [oy hc hk hk0 hl] at h ⊢; cases h; exact ⟨fun _ => rfl, fun k => by simp only at k; omega⟩
  ·by_cases hx : 8 * B.length < s.at_ + 8
   ·rw [qB hc hk hk0 hl hx] at h; cases h
   ·rw [oG hc hk hk0 hl (by omega)] at h ⊢; exact yj h
 ·rw [iw hc hk hk0] at h ⊢; exact Ez h hs
theorem IB {o : Oc} (hB : aY B) (h : ia B mo s o) : Ok B mo s → ∀ x n, o = .ok (x, n) → s.out.length ≤ x.length ∧ ((x.length : Int) ≤ mo' → ia B mo' s (.ok (x, n))) ∧ ((s.out.length : Int) ≤ mo' → mo' < x.length → ia B mo' s (.error 6)) := by
 induction h with
 | done h => intro hok x n e; cases e; exact ⟨Nat.le_refl _, fun _ => .done h, fun h1 h2 => by omega⟩
 | step h1 h2 h3 ih =>
  intro hok x n e
  have hg := dZ hB hok h2
  obtain ⟨k1, k2, k3⟩ := ih hg.ok x n e
  have hle := hg.le
  refine ⟨by omega, fun k => .step h1 ((vX h2 (by omega)).1 (by omega)) (k2 k), fun q1 q2 => ?_⟩
  rename_i s' _
  by_cases hc : mo' < s'.out.length
  ·exact .fail h1 ((vX h2 q1).2 hc)
  ·exact .step h1 ((vX h2 q1).1 (by omega)) (k3 (by omega) q2)
 | fail _ _ => intro _ x n e; cases e
end
end Go.aa
namespace Go.aa
open Go.af Go.ab
section
variable {B : List Int}
theorem iP (j i : Nat) (hi : i < 8) : dM B (8 * j + i) = B.getD j 0 / 2 ^ i % 2 := by
 unfold dM
 rw [show (8 * j + i) / 8 = j by omega, show (8 * j + i) % 8 = i by omega]
theorem sQ (a m : Nat) : ∀ n, az B a (m + n) = az B a m + az B (a + m) n * 2 ^ m
 | 0 => by simp [az]
 | n + 1 => by
  have := sQ a m n
  show az B a (m + n) + dM B (a + (m + n)) * 2 ^ (m + n) = az B a m + (az B (a + m) n + dM B (a + m + n) * 2 ^ n) * 2 ^ m
  rw [this, Int.add_mul, Int.add_assoc, Nat.add_assoc a m n, Int.mul_assoc, ← Int.pow_add, Nat.add_comm n m]
theorem sY {j : Nat} (hb : 0 ≤ B.getD j 0 ∧ B.getD j 0 < 256) : az B (8 * j) 8 = B.getD j 0 := by
 simp only [az]
 rw [show 8 * j + 0 = 8 * j + 0 from rfl, iP j 0 (by omega), iP j 1 (by omega), iP j 2 (by omega), iP j 3 (by omega), iP j 4 (by omega), iP j 5 (by omega), iP j 6 (by omega), iP j 7 (by omega)]
 generalize B.getD j 0 = b at hb ⊢
 simp only [show (2 : Int) ^ 0 = 1 from rfl, show (2 : Int) ^ 1 = 2 from rfl, show (2 : Int) ^ 2 = 4 from rfl, show (2 : Int) ^ 3 = 8 from rfl, show (2 : Int) ^ 4 = 16 from rfl, show (2 : Int) ^ 5 = 32 from rfl, show (2 : Int) ^ 6 = 64 from rfl, show (2 : Int) ^ 7 = 128 from rfl]
 omega
theorem zt {j : Nat} (hb : 0 ≤ B.getD j 0 ∧ B.getD j 0 < 256) (hc : 0 ≤ B.getD (j + 1) 0 ∧ B.getD (j + 1) 0 < 256) : az B (8 * j) 16 = B.getD j 0 + 256 * B.getD (j + 1) 0 := by
 rw [show (16 : Nat) = 8 + 8 from rfl, sQ, sY hb, show 8 * j + 8 = 8 * (j + 1) by omega, sY hc]
 omega
theorem D0 {mo : Int} (hB : aY B) : ∀ (X : List Int) {s : St} {pos : Nat}, s.kind = 0 → s.aq = 0 → s.ended = false → s.left = X.length → s.at_ = 8 * pos → (∀ i, i < X.length → B.getD (pos + i) 0 = X.getD i 0) → pos + X.length ≤ B.length → (s.out.length : Int) + X.length ≤ mo →
  ∃ s', eD B mo s s' ∧ s'.at_ = 8 * (pos + X.length) ∧ s'.out = s.out ++ X ∧ s'.kind = -1 ∧ s'.aq = 0 ∧ s'.ended = s.last := by
 intro X
 induction X with
 | nil =>
  intro s pos hk hc he hl ha hx hp hm
  have h1 := oy (B := B) (mo := mo) (s := s) (by omega) (by omega) hk hl
  exact ⟨_, eD.one he h1, by simpa using ha, by simp, rfl, hc, rfl⟩
 | cons x X ih =>
  intro s pos hk hc he hl ha hx hp hm
  have hx0 : B.getD pos 0 = x := by simpa using hx 0 (by simp)
  have hp2 : pos + (X.length + 1) ≤ B.length := by simpa using hp
  have hl2 : s.left = X.length + 1 := by simpa using hl
  have hm2 : (s.out.length : Int) + (X.length + 1) ≤ mo := by simpa using hm
  have h1 := w4 (B := B) (mo := mo) (s := s) (by omega) (by omega) hk (by omega) (by omega) (by omega)
  rw [ha, sY (hB.get pos), hx0] at h1
  obtain ⟨s', g, a1, a2, a3, a4, a5⟩ := ih (s := { s with at_ := 8 * pos + 8, left := s.left - 1, out := s.out ++ [x] }) (pos := pos + 1) hk hc he (by show s.left - 1 = X.length; omega) (by show 8 * pos + 8 = 8 * (pos + 1); omega) (fun i hi => by
   have := hx (i + 1) (by simp; omega)
   rw [show pos + 1 + i = pos + (i + 1) by omega, this]; simp) (by omega) (by show ((s.out ++ [x]).length : Int) + X.length ≤ mo; simp; omega)
  exact ⟨s', (eD.one he h1).trans g, by rw [a1]; simp; omega, by rw [a2]; simp, a3, a4, a5⟩
def fX (la : Int) (X : List Int) : List Int := [la, (X.length : Int) % 256, (X.length : Int) / 256, 255 - (X.length : Int) % 256, 255 - (X.length : Int) / 256] ++ X
theorem kN (la : Int) (X : List Int) : (fX la X).length = 5 + X.length := by simp [fX]; omega
theorem vi {mo : Int} (hB : aY B) {s : St} {pos : Nat} {la : Int} {X : List Int} (hla : la = 0 ∨ la = 1) (hX : X.length ≤ 65535) (hk : s.kind = -1) (hc : s.aq = 0) (he : s.ended = false) (ha : s.at_ = 8 * pos) (hx : ∀ i, i < (fX la X).length → B.getD (pos + i) 0 = (fX la X).getD i 0) (hp : pos + (fX la X).length ≤ B.length) (hm : (s.out.length : Int) + X.length ≤ mo) :
  ∃ s', eD B mo s s' ∧ s'.at_ = 8 * (pos + (fX la X).length) ∧ s'.out = s.out ++ X ∧ s'.kind = -1 ∧ s'.aq = 0 ∧ s'.ended = decide (la = 1) := by
 have hbl := kN la X
 have b0 : B.getD pos 0 = la := by simpa [fX] using hx 0 (by omega)
 have b1 : B.getD (pos + 1) 0 = (X.length : Int) % 256 := by simpa [fX] using hx 1 (by omega)
 have b2 : B.getD (pos + 2) 0 = (X.length : Int) / 256 := by simpa [fX] using hx 2 (by omega)
 have b3 : B.getD (pos + 3) 0 = 255 - (X.length : Int) % 256 := by simpa [fX] using hx 3 (by omega)
 have b4 : B.getD (pos + 4) 0 = 255 - (X.length : Int) / 256 := by simpa [fX] using hx 4 (by omega)
 have e0 : az B s.at_ 1 = la := by
  rw [ha, oQ, show 8 * pos = 8 * pos + 0 from rfl, iP pos 0 (by omega), b0]
  rcases hla with rfl | rfl <;> rfl
 have e1 : az B (s.at_ + 1) 2 = 0 := by
  rw [ha]
  simp only [az]
  rw [show 8 * pos + 1 + 0 = 8 * pos + 1 from rfl, show 8 * pos + 1 + 1 = 8 * pos + 2 from rfl, iP pos 1 (by omega), iP pos 2 (by omega), b0]
  rcases hla with rfl | rfl <;> rfl
 have hal : cC (s.at_ + 3) = 8 * (pos + 1) := by rw [tJ, ha]; omega
 have n1 : az B (cC (s.at_ + 3)) 16 = (X.length : Int) := by rw [hal, zt (hB.get _) (hB.get _), b1, show pos + 1 + 1 = pos + 2 from rfl, b2]; omega
 have n2 : az B (cC (s.at_ + 3) + 16) 16 = 65535 - (X.length : Int) := by rw [hal, show 8 * (pos + 1) + 16 = 8 * (pos + 3) by omega, zt (hB.get _) (hB.get _), b3, show pos + 3 + 1 = pos + 4 from rfl, b4]; omega
 have hb := qD (B := B) (s := s) (by omega) e1 (by omega) (by rw [n1, n2]; omega)
 have h1 := (jd (B := B) (mo := mo) (s := s) (by omega) hk).trans hb
 rw [n1, e0, hal] at h1
 obtain ⟨s', g, a1, a2, a3, a4, a5⟩ := D0 (mo := mo) hB X (s := { s with at_ := 8 * (pos + 1) + 32, kind := 0, left := ((X.length : Int)).toNat, last := decide (la = 1) }) (pos := pos + 5) rfl hc he (by show ((X.length : Int)).toNat = X.length; omega) (by show 8 * (pos + 1) + 32 = 8 * (pos + 5); omega) (fun i hi => by
  have := hx (5 + i) (by omega)
  rw [show pos + 5 + i = pos + (5 + i) by omega, this]; simp [fX, Nat.add_comm 5 i]) (by omega) hm
 exact ⟨s', (eD.one he h1).trans g, by rw [a1]; omega, a2, a3, a4, a5⟩
def fW : List (List Int) → List Int
 | [] => []
 | [X] => fX 1 X
 | X :: Y :: L => fX 0 X ++ fW (Y :: L)
theorem ny (a b : List Int) (i : Nat) (h : i < a.length) : (a ++ b).getD i 0 = a.getD i 0 := by
 rw [List.getD_eq_getElem?_getD, List.getElem?_append_left h, ← List.getD_eq_getElem?_getD]
theorem dm (a b : List Int) (i : Nat) : (a ++ b).getD (a.length + i) 0 = b.getD i 0 := by
 rw [List.getD_eq_getElem?_getD, List.getElem?_append_right (by omega), Nat.add_sub_cancel_left, ← List.getD_eq_getElem?_getD]
theorem ET {mo : Int} (hB : aY B) : ∀ (L : List (List Int)) {s : St} {pos : Nat}, L ≠ [] → (∀ X ∈ L, X.length ≤ 65535) → s.kind = -1 → s.aq = 0 → s.ended = false → s.at_ = 8 * pos → (∀ i, i < (fW L).length → B.getD (pos + i) 0 = (fW L).getD i 0) → pos + (fW L).length ≤ B.length → (s.out.length : Int) + L.flatten.length ≤ mo →
  ∃ s', eD B mo s s' ∧ s'.at_ = 8 * (pos + (fW L).length) ∧ s'.out = s.out ++ L.flatten ∧ s'.ended = true := by
 intro L
 induction L with
 | nil => intro s pos h; exact (h rfl).elim
 | cons X L ih =>
  intro s pos _ hL hk hc he ha hx hp hm
  cases L with
  | nil =>
   obtain ⟨s', g, a1, a2, a3, a4, a5⟩ := vi (mo := mo) hB (.inr rfl) (hL X (List.mem_cons_self ..)) hk hc he ha hx hp (by simpa using hm)
   exact ⟨s', g, a1, by simpa using a2, a5⟩
  | cons Y L =>
   have hlen : (fW (X :: Y :: L)).length = (fX 0 X).length + (fW (Y :: L)).length := by simp [fW]
   have hfl : (X :: Y :: L).flatten.length = X.length + (Y :: L).flatten.length := by simp
   obtain ⟨s', g, a1, a2, a3, a4, a5⟩ := vi (mo := mo) hB (.inl rfl) (hL X (List.mem_cons_self ..)) hk hc he ha (fun i hi => by rw [hx i (by omega)]; exact ny _ _ _ hi) (by omega) (by omega)
   obtain ⟨s2, g2, c1, c2, c3⟩ := ih (s := s') (pos := pos + (fX 0 X).length) (by simp) (fun Z hZ => hL Z (List.mem_cons_of_mem _ hZ)) a3 a4 (by rw [a5]; rfl) a1 (fun i hi => by
    rw [show pos + (fX 0 X).length + i = pos + ((fX 0 X).length + i) by omega, hx _ (by omega)]; exact dm _ _ _) (by omega) (by rw [a2]; simp only [List.length_append]; omega)
   exact ⟨s2, g.trans g2, by rw [c1, hlen]; omega, by rw [c2, a2]; simp, c3⟩
end
theorem xl {la : Int} {X : List Int} (hla : la = 0 ∨ la = 1) (hX : X.length ≤ 65535) (h : aY X) : aY (fX la X) := by
 intro x hx
 unfold fX at hx
 rcases List.mem_append.1 hx with hx | hx
 ·simp only [List.mem_cons, List.not_mem_nil, or_false] at hx
  rcases hx with rfl | rfl | rfl | rfl | rfl <;> omega
 ·exact h x hx
theorem ss : ∀ (L : List (List Int)), (∀ X ∈ L, X.length ≤ 65535 ∧ aY X) → aY (fW L)
 | [], _ => fun x hx => by cases hx
 | [X], h => xl (.inr rfl) (h X (List.mem_cons_self ..)).1 (h X (List.mem_cons_self ..)).2
 | X :: Y :: L, h => fun x hx => by
  rcases List.mem_append.1 hx with hx | hx
  ·exact xl (.inl rfl) (h X (List.mem_cons_self ..)).1 (h X (List.mem_cons_self ..)).2 x hx
  ·exact ss (Y :: L) (fun Z hZ => h Z (List.mem_cons_of_mem _ hZ)) x hx
theorem Fp {L : List (List Int)} (hne : L ≠ []) (hL : ∀ X ∈ L, X.length ≤ 65535 ∧ aY X) {t : List Int} (ht : aY t) : gU (fW L ++ t) L.flatten.length (L.flatten, ((fW L).length : Int), 0) ∧ ∀ mo : Int, 0 ≤ mo → mo < L.flatten.length → gU (fW L ++ t) mo ([], 0, 6) := by
 have hB : aY (fW L ++ t) := fun x hx => by
  rcases List.mem_append.1 hx with hx | hx
  ·exact ss L hL x hx
  ·exact ht x hx
 obtain ⟨s', g, a1, a2, a3⟩ := ET (mo := L.flatten.length) hB L (s := start) (pos := 0) hne (fun X hX => (hL X hX).1) rfl rfl rfl rfl (fun i hi => by rw [Nat.zero_add]; exact ny _ _ _ hi) (by rw [List.length_append]; omega) (by show ((0 : Nat) : Int) + _ ≤ _; omega)
 have hr : ia (fW L ++ t) L.flatten.length start (.ok (L.flatten, (fW L).length)) := by
  have := g _ (.done a3)
  rw [a2, a1, show (8 * (0 + (fW L).length) + 7) / 8 = (fW L).length by omega, show start.out ++ L.flatten = L.flatten from rfl] at this
  exact this
 refine ⟨.inr ⟨by omega, _, hr, rfl⟩, fun mo h0 h1 => ?_⟩
 have hm := (IB (mo' := mo) hB hr (oP (by omega)) _ _ rfl).2.2 (by show ((0 : Nat) : Int) ≤ mo; omega) h1
 exact .inr ⟨h0, _, hm, rfl⟩
def Jb (L : List (List Int)) : Nat → List Int
 | 0 => []
 | i + 1 => Jb L i ++ fX (if i + 1 = L.length then 1 else 0) (L.getD i [])
end Go.aa
namespace Go.aa
open Go.af Go.ab
structure Bk (L : List (List Int)) (i : Nat) : Prop where
 le : i ≤ L.length
 KL : ∀ j, j < i → (L.getD j []).length ≤ 1000
 lH : ∀ j, j < i → aY (L.getD j [])
 On : (L.take i).flatten.length ≤ 1000 * i
 Of : (Jb L i).length ≤ 1005 * i
end Go.aa
namespace Go.af
theorem HW {out : List Int} {j p : Nat} {c : Int} (hB : aY out) (hj : j < out.length) (hp : p < 8) (hb : 0 ≤ c ∧ c ≤ 1) (hz : dM out (8 * j + p) = 0) : (∀ i, dM (out.set j (oD (out.getD j 0) c p)) i = if i = 8 * j + p then c else dM out i) ∧ aY (out.set j (oD (out.getD j 0) c p)) := by
 have hx := hB.get j
 unfold dM at hz
 rw [show (8 * j + p) / 8 = j by omega, show (8 * j + p) % 8 = p by omega] at hz
 obtain ⟨x, hxe⟩ : ∃ x : Nat, out.getD j 0 = (x : Int) := ⟨(out.getD j 0).toNat, by omega⟩
 obtain ⟨c, rfl⟩ : ∃ c' : Nat, c = (c' : Int) := ⟨c.toNat, by omega⟩
 rw [hxe] at hz hx
 have ez : ∀ q : Nat, (x : Int) / 2 ^ q % 2 = ((x / 2 ^ q % 2 : Nat) : Int) := fun q => by simp
 rw [ez] at hz
 have hor : oD (out.getD j 0) (c : Int) p = ((x ||| c * 2 ^ p : Nat) : Int) := by rw [hxe]; simp only [oD, Int.toNat_natCast]
 rw [hor]
 refine ⟨fun i => ?_, fun y hy => ?_⟩
 ·unfold dM
  simp only [List.getD_eq_getElem?_getD, List.getElem?_set]
  by_cases hi : j = i / 8
  ·rw [if_pos hi, if_pos hj]
   simp only [Option.getD_some]
   have e3 : ((x ||| c * 2 ^ p : Nat) : Int) / 2 ^ (i % 8) % 2 = (((x ||| c * 2 ^ p) / 2 ^ (i % 8) % 2 : Nat) : Int) := by simp
   rw [e3, yL (by omega) (by omega)]
   by_cases hq : i % 8 = p
   ·rw [if_pos hq, if_pos (by omega)]
   ·rw [if_neg hq, if_neg (by omega), ← hi]
    rw [List.getD_eq_getElem?_getD] at hxe
    rw [hxe, ez]
  ·rw [if_neg hi, if_neg (by omega)]
 ·rcases List.mem_or_eq_of_mem_set hy with hy | rfl
  ·exact hB y hy
  ·have := DK (x := x) (b := c) (p := p) (by omega) (by omega) hp
   omega
structure Po (bs : List Int) (i : Nat) (o : List Int) : Prop where
 len : o.length = (bs.length + 7) / 8
 lH : aY o
 get : ∀ k, k < i → dM o k = bs.getD k 0
 zero : ∀ k, i ≤ k → dM o k = 0
theorem Po.K8 (bs : List Int) : Po bs 0 (List.replicate ((bs.length + 7) / 8) 0) := ⟨by simp, fun x hx => by rw [List.eq_of_mem_replicate hx]; omega, fun k h => by omega, fun k _ => by
 unfold dM
 have : (List.replicate ((bs.length + 7) / 8) (0 : Int)).getD (k / 8) 0 = 0 := by
  rw [List.getD_eq_getElem?_getD, List.getElem?_replicate]
  split <;> rfl
 rw [this]; simp⟩
theorem Po.step {bs o : List Int} {i : Nat} (h : Po bs i o) (hi : i < bs.length) (hb : 0 ≤ bs.getD i 0 ∧ bs.getD i 0 ≤ 1) : Po bs (i + 1) (o.set (i / 8) (oD (o.getD (i / 8) 0) (bs.getD i 0) (i % 8))) := by
 have hl := h.len
 obtain ⟨h1, h2⟩ := HW (j := i / 8) (p := i % 8) h.lH (by omega) (by omega) hb (h.zero _ (by omega))
 refine ⟨by simp [hl], h2, fun k hk => ?_, fun k hk => ?_⟩
 ·rw [h1]
  by_cases e : k = i
  ·rw [if_pos (by omega), e]
  ·rw [if_neg (by omega)]; exact h.get k (by omega)
 ·rw [h1, if_neg (by omega)]; exact h.zero k (by omega)
end Go.af
namespace Go.aa
open Go.af Go.ab
def L7 (s : Int) : Int := if 280 ≤ s then 192 + s - 280 else if 256 ≤ s then s - 256 else if 144 ≤ s then 400 + s - 144 else 48 + s
def ow (s : Int) : Nat := if 280 ≤ s then 8 else if 256 ≤ s then 7 else if 144 ≤ s then 9 else 8
theorem Dg (s : Int) : 7 ≤ ow s ∧ ow s ≤ 9 := by unfold ow; split <;> (try split) <;> (try split) <;> omega
theorem GP : (List.range 288).all (fun k => decide (bF.getD k 0 = (ow (k : Nat) : Int))) = true := by kernel_rfl
theorem xJ {k : Nat} (h : k < 288) : bF.getD k 0 = (ow (k : Int) : Int) := by
 have := List.all_eq_true.1 GP k (List.mem_range.2 h)
 simpa using this
theorem BK : ∀ k : Nat, k ≤ 288 → ((cls (bF.take k) 7).length = (if k ≤ 256 then 0 else if k ≤ 280 then k - 256 else 24)) ∧ ((cls (bF.take k) 8).length = (if k ≤ 144 then k else if k ≤ 280 then 144 else k - 136)) ∧ ((cls (bF.take k) 9).length = (if k ≤ 144 then 0 else if k ≤ 256 then k - 144 else 112)) := by
 intro k
 induction k with
 | zero => intro _; simp [py]
 | succ k ih =>
  intro hk
  obtain ⟨h1, h2, h3⟩ := ih (by omega)
  have hlt : k < bF.length := by rw [gL]; omega
  have hg : bF[k] = (ow (k : Int) : Int) := by
   rw [← xJ (by omega)]
   simp [List.getD_eq_getElem?_getD, hlt]
  have key : ∀ n : Nat, (cls (bF.take (k + 1)) n).length = (cls (bF.take k) n).length + (if ow (k : Int) = n then 1 else 0) := by
   intro n
   rw [jZ hlt, hg, List.length_append]
   by_cases e : ow (k : Int) = n
   ·rw [if_pos e, if_pos (by omega)]; rfl
   ·rw [if_neg e, if_neg (by omega)]; rfl
  have hn : ow (k : Int) = (if 280 ≤ k then 8 else if 256 ≤ k then 7 else if 144 ≤ k then 9 else 8) := by
   unfold ow
   by_cases c1 : 280 ≤ k
   ·rw [if_pos (by omega), if_pos c1]
   ·rw [if_neg (by omega), if_neg c1]
    by_cases c2 : 256 ≤ k
    ·rw [if_pos (by omega), if_pos c2]
    ·rw [if_neg (by omega), if_neg c2]
     by_cases c3 : 144 ≤ k
     ·rw [if_pos (by omega), if_pos c3]
     ·rw [if_neg (by omega), if_neg c3]
  by_cases c1 : 280 ≤ k
  ·rw [if_pos c1] at hn; rw [key, key, key, h1, h2, h3, hn, if_neg (show ¬ (8 : Nat) = 7 by decide), if_pos rfl, if_neg (show ¬ (8 : Nat) = 9 by decide)]; clear h1 h2 h3 key hg ih hn; (refine ⟨?_, ?_, ?_⟩ <;> (repeat' split)) <;> omega
  ·rw [if_neg c1] at hn
   by_cases c2 : 256 ≤ k
   ·rw [if_pos c2] at hn; rw [key, key, key, h1, h2, h3, hn, if_pos rfl, if_neg (show ¬ (7 : Nat) = 8 by decide), if_neg (show ¬ (7 : Nat) = 9 by decide)]; clear h1 h2 h3 key hg ih hn; (refine ⟨?_, ?_, ?_⟩ <;> (repeat' split)) <;> omega
   ·rw [if_neg c2] at hn
    by_cases c3 : 144 ≤ k
    ·rw [if_pos c3] at hn; rw [key, key, key, h1, h2, h3, hn, if_neg (show ¬ (9 : Nat) = 7 by decide), if_neg (show ¬ (9 : Nat) = 8 by decide), if_pos rfl]; clear h1 h2 h3 key hg ih hn; (refine ⟨?_, ?_, ?_⟩ <;> (repeat' split)) <;> omega
    ·rw [if_neg c3] at hn; rw [key, key, key, h1, h2, h3, hn, if_neg (show ¬ (8 : Nat) = 7 by decide), if_pos rfl, if_neg (show ¬ (8 : Nat) = 9 by decide)]; clear h1 h2 h3 key hg ih hn; (refine ⟨?_, ?_, ?_⟩ <;> (repeat' split)) <;> omega
theorem Hw (n : Nat) (hn : n < 7) (h1 : 1 ≤ n) : (cls bF n) = [] := by
 cases h : cls bF n with
 | nil => rfl
 | cons x l =>
  exfalso
  have hx : x ∈ cls bF n := by rw [h]; exact List.mem_cons_self ..
  obtain ⟨k1, k2, k3⟩ := il.1 hx
  rw [gL] at k2
  rw [xJ k2] at k3
  have := Dg ((x.toNat : Nat) : Int)
  omega
theorem HR : base bF 7 = 0 ∧ base bF 8 = 48 ∧ base bF 9 = 400 := by
 have hc := BK 288 (Nat.le_refl _)
 rw [List.take_of_length_le (by rw [gL]; decide)] at hc
 have z : ∀ n, n < 7 → da bF n = 0 := by
  intro n hn
  unfold da
  by_cases e : n = 0
  ·rw [if_pos e]
  ·rw [if_neg e, Hw n hn (by omega)]; rfl
 have c7 : da bF 7 = 24 := by unfold da; rw [if_neg (by decide), hc.1]; rfl
 have c8 : da bF 8 = 152 := by unfold da; rw [if_neg (by decide), hc.2.1]; rfl
 have b7 : base bF 7 = 0 := by simp only [base]; rw [z 0 (by decide), z 1 (by decide), z 2 (by decide), z 3 (by decide), z 4 (by decide), z 5 (by decide), z 6 (by decide)]; rfl
 have b8 : base bF 8 = 48 := by rw [show base bF 8 = 2 * (base bF 7 + da bF 7) from rfl, b7, c7]; rfl
 exact ⟨b7, b8, by rw [show base bF 9 = 2 * (base bF 8 + da bF 8) from rfl, b8, c8]; rfl⟩
theorem As {s : Int} (h : 0 ≤ s ∧ s < 288) : gF bF s = L7 s ∧ (eC bF s).toNat = ow s ∧ fT bF s = true := by
 have hV := (cM kU).1
 obtain ⟨p1, p2⟩ := rk hV h.1 (by rw [gL]; omega)
 have hl := xJ (k := s.toNat) (by omega)
 rw [Int.toNat_of_nonneg h.1] at hl
 have hle := Dg s
 rw [hl] at p1 p2
 have hb : fT bF s = true := by rw [p1]; exact decide_eq_true (by omega)
 refine ⟨?_, by rw [p2]; simp, hb⟩
 have hlen : lenOf bF s.toNat = ow s := by unfold lenOf; rw [hl]; simp
 have hw : gF bF s = ff bF s.toNat := by
  unfold gF
  rw [if_pos ⟨h.1, by rw [gL]; omega⟩]
  unfold wd
  rw [if_pos (by rw [hlen]; omega)]
 rw [hw]
 unfold ff
 rw [hlen]
 obtain ⟨c7, c8, c9⟩ := BK s.toNat (by omega)
 obtain ⟨b7, b8, b9⟩ := HR
 unfold ow L7
 by_cases c1 : 280 ≤ s
 ·rw [if_pos c1, if_pos c1, b8, c8]; clear c7 c8 c9; (repeat' split) <;> omega
 ·rw [if_neg c1, if_neg c1]
  by_cases c2 : 256 ≤ s
  ·rw [if_pos c2, if_pos c2, b7, c7]; clear c7 c8 c9; (repeat' split) <;> omega
  ·rw [if_neg c2, if_neg c2]
   by_cases c3 : 144 ≤ s
   ·rw [if_pos c3, if_pos c3, b9, c9]; clear c7 c8 c9; (repeat' split) <;> omega
   ·rw [if_neg c3, if_neg c3, b8, c8]; clear c7 c8 c9; (repeat' split) <;> omega
theorem IM : ∀ k : Nat, k < 32 → gF fu k = k ∧ eC fu k = 5 ∧ fT fu k = true := by decide +kernel
theorem LI {s : Int} (h : 0 ≤ s ∧ s < 32) : gF fu s = s ∧ (eC fu s).toNat = 5 ∧ fT fu s = true := by
 have := IM s.toNat (by omega)
 rw [Int.toNat_of_nonneg h.1] at this
 refine ⟨this.1, by rw [this.2.1]; rfl, this.2.2⟩
structure Pq (bs o : List Int) : Prop where
 lH : aY o
 len : bs.length ≤ 8 * o.length
 get : ∀ i, i < bs.length → dM o i = bs.getD i 0
section
variable {bs o u w r out : List Int} {mo s y d : Int} {z : St}
theorem AL (h : Pq bs o) (e : bs = u ++ w ++ r) : (∀ i, i < w.length → dM o (u.length + i) = w.getD i 0) ∧ u.length + w.length ≤ 8 * o.length := by
 have hl := h.len
 have hbl : bs.length = u.length + w.length + r.length := by rw [e]; simp only [List.length_append]
 refine ⟨fun i hi => ?_, by omega⟩
 rw [h.get _ (by omega), e, List.append_assoc, dm, ny _ _ _ hi]
theorem qW {ls : List Int} (hE : aO ls = 0) (h0 : 0 ≤ s) (h1 : s < ls.length) (hb : fT ls s = true) (h : Pq bs o) (e : bs = u ++ wb ls s ++ r) : sym ls o u.length = .ok (s, (u ++ wb ls s).length) := by
 obtain ⟨k1, k2⟩ := AL h e
 unfold sym
 rw [G7 hE h0 h1 hb k1 k2, List.length_append]
structure Rd (o : List Int) (mo : Int) (z : St) (a : Nat) (out : List Int) : Prop where
 n6 : eD o mo start z
 at_ : z.at_ = a
 out : z.out = out
 kind : z.kind = 1
 aq : z.aq = 0
 ended : z.ended = false
 last : z.last = true
 lits : z.lits = bF
 cH : z.cH = fu
theorem Fl (h : Pq bs o) (e : bs = aQ 3 3 ++ r) : ∃ z, Rd o mo z 3 [] := by
 obtain ⟨k1, k2⟩ := AL (u := []) (w := aQ 3 3) (r := r) h (by rw [e]; rfl)
 have e0 := k1 0 (by decide)
 have e1 := k1 1 (by decide)
 have e2 := k1 2 (by decide)
 simp only [List.length_nil, Nat.zero_add] at e0 e1 e2
 have d0 : (aQ 3 3).getD 0 0 = 1 := rfl
 have d1 : (aQ 3 3).getD 1 0 = 1 := rfl
 have d2 : (aQ 3 3).getD 2 0 = 0 := rfl
 have hl3 : (aQ 3 3).length = 3 := rfl
 rw [List.length_nil, hl3] at k2
 have n1 : az o start.at_ 1 = 1 := by show az o 0 1 = 1; rw [oQ, e0, d0]
 have n2 : az o (start.at_ + 1) 2 = 1 := by
  show az o 1 2 = 1
  simp only [az]
  rw [show 1 + 0 = 1 from rfl, show 1 + 1 = 2 from rfl, e1, e2, d1, d2]
  rfl
 have hb := ti (B := o) (s := start) (by show 0 + 3 ≤ _; omega) n2
 have h1 := (jd (B := o) (mo := mo) (s := start) (by decide) rfl).trans hb
 refine ⟨_, eD.one rfl h1, rfl, rfl, rfl, rfl, rfl, ?_, rfl, rfl⟩
 show decide (az o start.at_ 1 = 1) = true
 rw [n1]; rfl
def tn (d : Nat) : Nat → List Int → List Int
 | 0, l => l
 | k + 1, l => tn d k (l ++ [l.getD (l.length - d) 0])
theorem BC {o : List Int} {mo : Int} : ∀ (n : Nat) {z : St}, z.aq = n → z.ended = false → (z.out.length : Int) + n ≤ mo → ∃ z', eD o mo z z' ∧ z'.at_ = z.at_ ∧ z'.out = tn z.aL n z.out ∧ z'.kind = z.kind ∧ z'.aq = 0 ∧ z'.ended = false ∧ z'.last = z.last ∧ z'.lits = z.lits ∧ z'.cH = z.cH := by
 intro n
 induction n with
 | zero => intro z hc he hm; exact ⟨z, eD.refl _ _ _, rfl, rfl, rfl, hc, he, rfl, rfl, rfl⟩
 | succ n ih =>
  intro z hc he hm
  have h1 := we (B := o) (mo := mo) (s := z) (by omega) (by omega)
  obtain ⟨z', g, a1, a2, a3, a4, a5, a6, a7, a8⟩ := ih (z := { z with aq := z.aq - 1, out := z.out ++ [z.out.getD (z.out.length - z.aL) 0] }) (by show z.aq - 1 = n; omega) he (by simp; omega)
  exact ⟨z', (eD.one he h1).trans g, a1, a2, a3, a4, a5, a6, a7, a8⟩
def ML (n d : Int) : List Int := wb bF (254 + n) ++ wb fu (d - 1)
end
def Gv (d : Int) : List Int → List Int
 | [] => []
 | m :: l => ML (3 + m % 8) d ++ Gv d l
def Lz (d : Int) : List Int → List Int → List Int
 | [], out => out
 | m :: l, out => Lz d l (tn d.toNat (3 + m % 8).toNat out)
def N9 (head : List Int) (d : Int) (l : List Int) : List Int := aQ 3 3 ++ ab.bits bF head ++ Gv d l
end Go.aa
namespace Go.aa
open Go.af Go.ab
theorem Dq {l : List Int} {i : Nat} (h : i < l.length) : l.take (i + 1) = l.take i ++ [l.getD i 0] := by
 rw [List.take_succ_eq_append_getElem h]
 simp [List.getD_eq_getElem?_getD, h]
def mC (l : List Int) : Prop := ∀ x ∈ l, 0 ≤ x ∧ x ≤ 1
theorem mC.get {l : List Int} (h : mC l) (i : Nat) : 0 ≤ l.getD i 0 ∧ l.getD i 0 ≤ 1 := by
 rw [List.getD_eq_getElem?_getD]
 cases e : l[i]? with
 | none => simp
 | some x => exact h x (List.mem_of_getElem? e)
theorem mC.app {a b : List Int} (h : mC a) (k : mC b) : mC (a ++ b) := fun x hx => by
 rcases List.mem_append.1 hx with hx | hx
 ·exact h x hx
 ·exact k x hx
theorem kB (x : Int) (n : Nat) : mC (aQ x n) := fun y hy => by
 unfold aQ at hy
 obtain ⟨i, _, rfl⟩ := List.mem_map.1 hy
 omega
end Go.aa
namespace Go.aa
open Go.af Go.ab
end Go.aa
namespace Go.ad
open Go.af Go.ab Go.aa
def x3 (x y z : Int) : Int := IntKind.u32.wrap ((BitVec.ofInt IntKind.u32.bits (IntKind.u32.wrap ((BitVec.ofInt IntKind.u32.bits (IntKind.u32.wrap (x * 2 ^ (min (16 : Int).toNat IntKind.u32.bits))) ||| BitVec.ofInt IntKind.u32.bits (IntKind.u32.wrap (y * 2 ^ (min (8 : Int).toNat IntKind.u32.bits)))).toNat : Int)) ||| BitVec.ofInt IntKind.u32.bits z).toNat : Int)
def iv (x y z : Int) : Int := (IntKind.u32.wrap (x3 x y z * 2654435761)).fdiv (2 ^ (min (19 : Int).toNat IntKind.u32.bits))
theorem u32_in (x : Int) : 0 ≤ IntKind.u32.wrap x ∧ IntKind.u32.wrap x < 4294967296 := by
 have e : IntKind.u32.wrap x = x % 4294967296 := by simp [IntKind.wrap, IntKind.bits, IntKind.signed]
 rw [e]; omega
theorem KH (x y z : Int) : 0 ≤ iv x y z ∧ iv x y z < 8192 := by
 unfold iv
 have h := u32_in (x3 x y z * 2654435761)
 have e : (2 : Int) ^ (min (19 : Int).toNat IntKind.u32.bits) = 524288 := by decide
 rw [e, Int.fdiv_eq_ediv_of_nonneg _ (by decide)]
 omega
def hs (B : List Int) (a : Nat) : Int := iv (B.getD a 0) (B.getD (a + 1) 0) (B.getD (a + 2) 0)
theorem rP (B : List Int) (a : Nat) : 0 ≤ hs B a ∧ hs B a < 8192 := KH _ _ _
structure Fd where
 hd : List Int
 nx : List Int
def oa (B : List Int) (f : Fd) (a : Nat) : Fd := if B.length < a + 3 then f else ⟨f.hd.set (hs B a).toNat (a : Int), f.nx.set a (f.hd.getD (hs B a).toNat 0)⟩
def lj (B : List Int) (f : Fd) (a : Nat) : Nat → Fd
 | 0 => f
 | k + 1 => oa B (lj B f a k) (a + k)
def kJ (B : List Int) (old a : Nat) : Nat → Nat → Nat
 | 0, n => n
 | f + 1, n => if a + n < B.length ∧ B.getD (old + n) 0 = B.getD (a + n) 0 then kJ B old a f (n + 1) else n
def oF (B : List Int) (old a : Nat) : Nat := kJ B old a 258 0
def gB (B nx : List Int) (a : Nat) : Nat → Int → Int → Int → Int × Int
 | 0, _, n, aL => (n, aL)
 | t + 1, old, n, aL => if old = -1 ∨ 32768 < (a : Int) - old then (n, aL) else
  if n < (oF B old.toNat a : Int) then gB B nx a t (nx.getD old.toNat 0) (oF B old.toNat a) ((a : Int) - old) else gB B nx a t (nx.getD old.toNat 0) n aL
def cV (B : List Int) (f : Fd) (a : Nat) : Int × Int := if B.length < a + 3 then (0, 0) else gB B f.nx a 24 (f.hd.getD (hs B a).toNat 0) 0 0
structure aZ where
 lit : Int
 n : Int
 aL : Int
def gv (B : List Int) : Nat → Fd → Nat → List aZ
 | 0, _, _ => []
 | q + 1, f, a => if a < B.length then
   (if (cV B f a).1 < 3 then ⟨B.getD a 0, 0, 0⟩ :: gv B q (lj B f a 1) (a + 1)
    else ⟨0, (cV B f a).1, (cV B f a).2⟩ :: gv B q (lj B f a (cV B f a).1.toNat) (a + (cV B f a).1.toNat)) else []
def zq (B : List Int) : Fd := ⟨List.replicate 8192 (-1), List.replicate B.length 0⟩
def du (B : List Int) : List aZ := gv B B.length (zq B) 0
theorem B8 {B : List Int} {old a f n : Nat} (h : ¬ (a + n < B.length ∧ B.getD (old + n) 0 = B.getD (a + n) 0)) : kJ B old a f n = n := by
 cases f with
 | zero => rfl
 | succ f => simp only [kJ]; rw [if_neg h]
theorem Ay {B : List Int} {old a n : Nat} (hn : n < 258) (h : a + n < B.length ∧ B.getD (old + n) 0 = B.getD (a + n) 0) : kJ B old a (258 - n) n = kJ B old a (258 - (n + 1)) (n + 1) := by
 rw [show 258 - n = (258 - (n + 1)) + 1 by omega]
 simp only [kJ]
 rw [if_pos h]
structure JY (B : List Int) (old a n : Nat) : Prop where
 le : n ≤ 258
 room : a + n ≤ B.length ∨ n = 0
 same : ∀ i, i < n → B.getD (old + i) 0 = B.getD (a + i) 0
theorem xu {B : List Int} {old a : Nat} : ∀ (f n : Nat), n + f ≤ 258 → JY B old a n → JY B old a (kJ B old a f n)
 | 0, n, _, h => h
 | f + 1, n, hf, h => by
  simp only [kJ]
  split
  ·rename_i hc
   refine xu f (n + 1) (by omega) ⟨by omega, .inl (by omega), fun i hi => ?_⟩
   rcases Nat.lt_or_ge i n with h1 | h1
   ·exact h.same i h1
   ·obtain rfl : i = n := by omega
    exact hc.2
  ·exact h
theorem Jr (B : List Int) (old a : Nat) : JY B old a (oF B old a) := xu 258 0 (by omega) ⟨by omega, .inr rfl, fun i h => by omega⟩
structure mG (B : List Int) (n : Nat) (f : Fd) : Prop where
 hl : f.hd.length = 8192
 nl : f.nx.length = B.length
 h : ∀ i, i < 8192 → -1 ≤ f.hd.getD i 0 ∧ f.hd.getD i 0 < n
 x : ∀ i, i < B.length → -1 ≤ f.nx.getD i 0 ∧ (f.nx.getD i 0 < n ∨ f.nx.getD i 0 = 0)
theorem zo {n i : Nat} {x : Int} (h : i < n) : (List.replicate n x).getD i 0 = x := by simp [List.getD_eq_getElem?_getD, h]
theorem mG.start (B : List Int) : mG B 0 (zq B) := ⟨List.length_replicate .., List.length_replicate .., fun i hi => by show -1 ≤ (List.replicate 8192 (-1 : Int)).getD i 0 ∧ _; rw [show (zq B).hd = List.replicate 8192 (-1) from rfl, zo hi]; omega, fun i hi => by rw [show (zq B).nx = List.replicate B.length 0 from rfl, zo hi]; omega⟩
theorem zE (l : List Int) (k : Nat) (v : Int) (i : Nat) : (l.set k v).getD i 0 = if i = k ∧ k < l.length then v else l.getD i 0 := by
 simp only [List.getD_eq_getElem?_getD, List.getElem?_set]
 by_cases h : k = i
 ·subst h
  by_cases h2 : k < l.length
  ·simp [h2]
  ·simp [h2, List.getElem?_eq_none (Nat.le_of_not_lt h2)]
 ·have : ¬ (i = k ∧ k < l.length) := fun e => h e.1.symm
  simp [h, this]
theorem mG.put {B : List Int} {n : Nat} {f : Fd} (h : mG B n f) : mG B (n + 1) (oa B f n) := by
 unfold oa
 split
 ·exact ⟨h.hl, h.nl, fun i hi => by have := h.h i hi; omega, fun i hi => by have := h.x i hi; omega⟩
 ·have hh := rP B n
  refine ⟨by simp [h.hl], by simp [h.nl], fun i hi => ?_, fun i hi => ?_⟩
  ·show -1 ≤ (f.hd.set _ _).getD i 0 ∧ (f.hd.set _ _).getD i 0 < _
   rw [zE]
   split
   ·omega
   ·have := h.h i hi; omega
  ·show -1 ≤ (f.nx.set _ _).getD i 0 ∧ ((f.nx.set _ _).getD i 0 < _ ∨ (f.nx.set _ _).getD i 0 = 0)
   rw [zE]
   split
   ·have := h.h (hs B n).toNat (by omega); omega
   ·have := h.x i hi; omega
theorem mG.wK {B : List Int} {n : Nat} {f : Fd} (h : mG B n f) : ∀ k, mG B (n + k) (lj B f n k)
 | 0 => h
 | k + 1 => (h.wK k).put
structure Fs (B : List Int) (a : Nat) (r : Int × Int) : Prop where
 pT : (r.1 = 0 ∧ r.2 = 0) ∨ (1 ≤ r.1 ∧ r.1 ≤ 258 ∧ 1 ≤ r.2 ∧ r.2 ≤ 32768 ∧ r.2 ≤ a ∧ a + r.1.toNat ≤ B.length ∧ ∀ i, i < r.1.toNat → B.getD (a - r.2.toNat + i) 0 = B.getD (a + i) 0)
theorem qa {B nx : List Int} {a : Nat} (hx : ∀ i, i < B.length → -1 ≤ nx.getD i 0 ∧ (nx.getD i 0 < a ∨ nx.getD i 0 = 0)) (ha : a < B.length) : ∀ (t : Nat) (old n aL : Int), -1 ≤ old → (old < a ∨ (old = 0 ∧ 0 < a)) → Fs B a (n, aL) → Fs B a (gB B nx a t old n aL)
 | 0, _, _, _, _, _, h => h
 | t + 1, old, n, aL, h0, h1, h => by
  simp only [gB]
  split
  ·exact h
  ·rename_i hc
   have hx2 := hx old.toNat (by omega)
   have ho : old < a := by omega
   split
   ·rename_i hk
    have hA := Jr B old.toNat a
    refine qa hx ha t _ _ _ hx2.1 (by omega) ⟨.inr ⟨?_, ?_, ?_, ?_, ?_, ?_, ?_⟩⟩
    ·have := h.pT; omega
    ·have := hA.le; show (oF B old.toNat a : Int) ≤ 258; omega
    ·show 1 ≤ (a : Int) - old; omega
    ·show (a : Int) - old ≤ 32768; omega
    ·show (a : Int) - old ≤ a; omega
    ·have := hA.room
     show a + ((oF B old.toNat a : Nat) : Int).toNat ≤ B.length
     omega
    ·intro i hi
     have := hA.same i (by simpa using hi)
     show B.getD (a - ((a : Int) - old).toNat + i) 0 = _
     rw [show a - ((a : Int) - old).toNat = old.toNat by omega]
     exact this
   ·exact qa hx ha t _ _ _ hx2.1 (by omega) h
theorem zR {B : List Int} {a : Nat} {f : Fd} (h : mG B a f) : Fs B a (cV B f a) := by
 unfold cV
 split
 ·exact ⟨.inl ⟨rfl, rfl⟩⟩
 ·have hh := rP B a
  have h1 := h.h (hs B a).toNat (by omega)
  exact qa h.x (by omega) 24 _ 0 0 h1.1 (.inl h1.2) ⟨.inl ⟨rfl, rfl⟩⟩
def Nl : List aZ → List Int → List Int
 | [], o => o
 | t :: l, o => Nl l (if t.n = 0 then o ++ [t.lit] else tn t.aL.toNat t.n.toNat o)
structure iu (t : aZ) : Prop where
 pT : (t.n = 0 ∧ t.aL = 0 ∧ 0 ≤ t.lit ∧ t.lit < 256) ∨ (t.lit = 0 ∧ 3 ≤ t.n ∧ t.n ≤ 258 ∧ 1 ≤ t.aL ∧ t.aL ≤ 32768)
theorem xP {B : List Int} {d : Nat} : ∀ (n a : Nat), a + n ≤ B.length → 1 ≤ d → d ≤ a → (∀ i, i < n → B.getD (a - d + i) 0 = B.getD (a + i) 0) → tn d n (B.take a) = B.take (a + n)
 | 0, a, _, _, _, _ => rfl
 | n + 1, a, h1, h2, h3, h4 => by
  simp only [tn]
  have e : B.take a ++ [(B.take a).getD ((B.take a).length - d) 0] = B.take (a + 1) := by
   rw [List.length_take, Nat.min_eq_left (by omega)]
   have e1 : (B.take a).getD (a - d) 0 = B.getD a 0 := by
    have := h4 0 (by omega)
    simp only [Nat.add_zero] at this
    rw [← this]
    simp [List.getD_eq_getElem?_getD, List.getElem?_take, show a - d < a by omega]
   rw [e1, List.take_add_one]
   simp [List.getD_eq_getElem?_getD, show a < B.length by omega]
  rw [e, xP n (a + 1) (by omega) h2 (by omega) (fun i hi => by have := h4 (i + 1) (by omega); rw [show a + 1 - d + i = a - d + (i + 1) by omega, show a + 1 + i = a + (i + 1) by omega]; exact this)]
  congr 1; omega
inductive jE (B : List Int) : Nat → List aZ → Prop
 | nil : jE B B.length []
 | lit {a : Nat} {l : List aZ} : a < B.length → jE B (a + 1) l → jE B a (⟨B.getD a 0, 0, 0⟩ :: l)
 | cp {a n d : Nat} {l : List aZ} : 3 ≤ n → n ≤ 258 → 1 ≤ d → d ≤ 32768 → d ≤ a → a + n ≤ B.length → (∀ i, i < n → B.getD (a - d + i) 0 = B.getD (a + i) 0) → jE B (a + n) l → jE B a (⟨0, n, d⟩ :: l)
theorem sH {B : List Int} : ∀ (q : Nat) {f : Fd} {a : Nat}, mG B a f → a ≤ B.length → B.length - a ≤ q → jE B a (gv B q f a)
 | 0, f, a, h, h1, h2 => by
  have : a = B.length := by omega
  subst this; exact .nil
 | q + 1, f, a, h, h1, h2 => by
  simp only [gv]
  split
  ·rename_i hl
   have hF := (zR h).pT
   split
   ·exact .lit hl (sH q (h.wK 1) (by omega) (by omega))
   ·rename_i h3
    rcases hF with hF | ⟨f1, f2, f3, f4, f5, f6, f7⟩
    ·omega
    ·have e1 : (cV B f a).1 = ((cV B f a).1.toNat : Int) := by omega
     have e2 : (cV B f a).2 = ((cV B f a).2.toNat : Int) := by omega
     have := jE.cp (B := B) (a := a) (n := (cV B f a).1.toNat) (d := (cV B f a).2.toNat) (by omega) (by omega) (by omega) (by omega) (by omega) f6 f7 (sH q (h.wK (cV B f a).1.toNat) (by omega) (by omega))
     rw [← e1, ← e2] at this
     exact this
  ·have : a = B.length := by omega
   subst this; exact .nil
theorem rH (B : List Int) : jE B 0 (du B) := sH _ (mG.start B) (Nat.zero_le _) (by omega)
theorem jE.ok {B : List Int} (hB : aY B) {a : Nat} {l : List aZ} (h : jE B a l) : ∀ t ∈ l, iu t := by
 induction h with
 | nil => intro t ht; cases ht
 | @lit a l hl _ ih =>
  intro t ht
  rcases List.mem_cons.1 ht with rfl | ht
  ·exact ⟨.inl ⟨rfl, rfl, (hB.get a).1, (hB.get a).2⟩⟩
  ·exact ih t ht
 | @cp a n d l h1 h2 h3 h4 h5 h6 h7 _ ih =>
  intro t ht
  rcases List.mem_cons.1 ht with rfl | ht
  ·exact ⟨.inr ⟨rfl, by show (3 : Int) ≤ n; omega, by show (n : Int) ≤ 258; omega, by show (1 : Int) ≤ d; omega, by show (d : Int) ≤ 32768; omega⟩⟩
  ·exact ih t ht
theorem jE.len {B : List Int} {a : Nat} {l : List aZ} (h : jE B a l) : l.length + a ≤ B.length := by
 induction h with
 | nil => simp
 | lit _ _ ih => simp only [List.length_cons]; omega
 | cp _ _ _ _ _ _ _ _ ih => simp only [List.length_cons]; omega
theorem uC {x y : Int} (h : 0 ≤ y ∧ y < 256) (e : x = y) : IntKind.u32.wrap x = y := by
 subst e
 have e : IntKind.u32.wrap x = x % 4294967296 := by simp [IntKind.wrap, IntKind.bits, IntKind.signed]
 rw [e]; omega
theorem LB (x y z : Int) : Value.int .u32 (IntKind.u32.wrap ((BitVec.ofInt IntKind.u32.bits (IntKind.u32.wrap ((BitVec.ofInt IntKind.u32.bits (IntKind.u32.wrap (x * 2 ^ (min (16 : Int).toNat IntKind.u32.bits))) ||| BitVec.ofInt IntKind.u32.bits (IntKind.u32.wrap (y * 2 ^ (min (8 : Int).toNat IntKind.u32.bits)))).toNat : Int)) ||| BitVec.ofInt IntKind.u32.bits z).toNat : Int)) = .int .u32 (x3 x y z) := rfl
theorem KN (B : List Int) (a : Nat) : Value.int .u32 ((IntKind.u32.wrap (x3 (B.getD a 0) (B.getD (a + 1) 0) (B.getD (a + 2) 0) * 2654435761)).fdiv (2 ^ (min (19 : Int).toNat IntKind.u32.bits))) = .int .u32 (hs B a) := rfl
theorem pD {B : List Int} {old a n : Nat} (hn : n ≤ 258) (h : (n < 258 ∧ a + n < B.length ∧ B.getD (old + n) 0 = B.getD (a + n) 0) → False) : kJ B old a (258 - n) n = n := by
 rcases Nat.lt_or_ge n 258 with h1 | h1
 ·exact B8 (fun h2 => h ⟨h1, h2⟩)
 ·rw [show 258 - n = 0 by omega]; rfl
theorem HT {B : List Int} {f : Fd} {a : Nat} (h : B.length < a + 3) : oa B f a = f := if_pos h
theorem FJ {B : List Int} {f : Fd} {a : Nat} (h : ¬ B.length < a + 3) : (oa B f a).hd = f.hd.set (hs B a).toNat (a : Int) ∧ (oa B f a).nx = f.nx.set a (f.hd.getD (hs B a).toNat 0) := by
 unfold oa; rw [if_neg h]; exact ⟨rfl, rfl⟩
theorem Hm {B : List Int} {f : Fd} {a : Nat} (h : B.length < a + 3) : cV B f a = (0, 0) := if_pos h
theorem Ig {B : List Int} {f : Fd} {a : Nat} (h : ¬ B.length < a + 3) : cV B f a = gB B f.nx a (24 - 0) (f.hd.getD (hs B a).toNat 0) 0 0 := if_neg h
section
variable {B nx : List Int} {a k o : Nat} {old n aL : Int}
theorem AH (h : ¬ k < 24) : gB B nx a (24 - k) old n aL = (n, aL) := by rw [show 24 - k = 0 by omega]; rfl
theorem r7 (hk : k < 24) (h : old = -1 ∨ 32768 < (a : Int) - old) : gB B nx a (24 - k) old n aL = (n, aL) := by
 rw [show 24 - k = (24 - (k + 1)) + 1 by omega]
 simp only [gB]
 rw [if_pos h]
theorem AW (hk : k < 24) (h1 : ¬ (o : Int) = -1) (h2 : ¬ 32768 < (a : Int) - o) (h3 : n < (oF B o a : Int)) : gB B nx a (24 - k) o n aL = gB B nx a (24 - (k + 1)) (nx.getD o 0) (oF B o a) ((a : Int) - o) := by
 rw [show 24 - k = (24 - (k + 1)) + 1 by omega]
 simp only [gB]
 rw [if_neg (by omega), Int.toNat_natCast, if_pos h3]
theorem Cu (hk : k < 24) (h1 : ¬ (o : Int) = -1) (h2 : ¬ 32768 < (a : Int) - o) (h3 : ¬ n < (oF B o a : Int)) : gB B nx a (24 - k) o n aL = gB B nx a (24 - (k + 1)) (nx.getD o 0) n aL := by
 rw [show 24 - k = (24 - (k + 1)) + 1 by omega]
 simp only [gB]
 rw [if_neg (by omega), Int.toNat_natCast, if_neg h3]
end
theorem o7 {B : List Int} : ∀ (q q' : Nat) (f : Fd) (a : Nat), B.length - a ≤ q → B.length - a ≤ q' → gv B q f a = gv B q' f a
 | 0, 0, f, a, _, _ => rfl
 | 0, q' + 1, f, a, h, _ => by simp only [gv]; rw [if_neg (by omega)]
 | q + 1, 0, f, a, _, h => by simp only [gv]; rw [if_neg (by omega)]
 | q + 1, q' + 1, f, a, h, h' => by
  simp only [gv]
  split
  ·split
   ·rw [o7 q q' _ _ (by omega) (by omega)]
   ·rw [o7 q q' _ _ (by omega) (by omega)]
  ·rfl
theorem Cy {B : List Int} {f : Fd} {a : Nat} (h : a < B.length) (h3 : (cV B f a).1 < 3) : gv B (B.length - a) f a = ⟨B.getD a 0, 0, 0⟩ :: gv B (B.length - (a + 1)) (lj B f a 1) (a + 1) := by
 rw [show B.length - a = (B.length - (a + 1)) + 1 by omega]
 simp only [gv]
 rw [if_pos h, if_pos h3]
theorem EJ {B : List Int} {f : Fd} {a n : Nat} (h : a < B.length) (h3 : ¬ (cV B f a).1 < 3) (hn : (cV B f a).1 = (n : Int)) : gv B (B.length - a) f a = ⟨0, (cV B f a).1, (cV B f a).2⟩ :: gv B (B.length - (a + n)) (lj B f a n) (a + n) := by
 rw [show B.length - a = (B.length - (a + 1)) + 1 by omega]
 simp only [gv]
 rw [if_pos h, if_neg h3, hn, Int.toNat_natCast, o7 (B.length - (a + 1)) (B.length - (a + n)) _ _ (by omega) (by omega)]
theorem G0 (B : List Int) : [] ++ gv B (B.length - 0) (zq B) 0 = du B := rfl
theorem D1 {n i : Nat} (h : i < n) : (List.replicate i (-1 : Int) ++ List.replicate (n - i) 0).set i (-1) = List.replicate (i + 1) (-1) ++ List.replicate (n - (i + 1)) 0 := by
 rw [List.set_append_right _ _ (by simp), List.length_replicate, Nat.sub_self, show n - i = (n - (i + 1)) + 1 by omega, List.replicate_succ, List.set_cons_zero, show List.replicate (i + 1) (-1 : Int) = List.replicate i (-1) ++ [-1] from List.replicate_succ']
 simp
theorem EW {B : List Int} {f : Fd} {a : Nat} (hf : mG B a f) (h3 : ¬ (cV B f a).1 < 3) : ∃ n d : Nat, (cV B f a).1 = (n : Int) ∧ (cV B f a).2 = (d : Int) ∧ 3 ≤ n ∧ n ≤ 258 ∧ a + n ≤ B.length := by
 rcases (zR hf).pT with h | ⟨f1, f2, f3, f4, f5, f6, f7⟩
 ·omega
 ·exact ⟨(cV B f a).1.toNat, (cV B f a).2.toNat, by omega, by omega, by omega, by omega, f6⟩
end Go.ad
namespace Go.ad
open Go.af Go.ab Go.aa
def ma (lim x : Int) : Nat → Nat → Nat
 | 0, m => m
 | f + 1, m => if lim ≤ x / 2 ^ m then ma lim x f (m + 1) else m
def lI (lim x : Int) : Nat := ma lim x 16 0
def eM (n : Int) : Int := if n - 3 = 255 then 285 else if n - 3 < 8 then 257 + (n - 3) else 257 + 4 * (lI 8 (n - 3) : Int) + (n - 3) / 2 ^ lI 8 (n - 3)
def ij (n : Int) : Nat := if n - 3 = 255 then 0 else if n - 3 < 8 then 0 else lI 8 (n - 3)
def iG (n : Int) : Int := if n - 3 = 255 then 0 else if n - 3 < 8 then 0 else (n - 3) % 2 ^ lI 8 (n - 3)
def ef (f : Int) : Int := if f - 1 < 4 then f - 1 else 2 * (lI 4 (f - 1) : Int) + (f - 1) / 2 ^ lI 4 (f - 1)
def jw (f : Int) : Nat := if f - 1 < 4 then 0 else lI 4 (f - 1)
def jV (f : Int) : Int := if f - 1 < 4 then 0 else (f - 1) % 2 ^ lI 4 (f - 1)
theorem Gm (x : Int) (k : Nat) : x / 2 ^ (k + 1) = x / 2 ^ k / 2 := by
 rw [Int.pow_succ, Int.ediv_ediv_of_nonneg (Int.le_of_lt (Int.pow_pos (by decide)))]
theorem wi {x : Int} {k : Nat} (hx : 0 ≤ x ∧ x < 32768) (hk : 13 ≤ k) : x / 2 ^ k < 4 := by
 have h1 : (2 : Int) ^ 13 ≤ 2 ^ k := by
  have := Nat.pow_le_pow_right (n := 2) (by decide) hk
  have e : ∀ q : Nat, ((2 : Int) ^ q) = ((2 ^ q : Nat) : Int) := fun q => by simp
  rw [e, e]; omega
 have h2 : (0 : Int) < 2 ^ k := Int.pow_pos (by decide)
 refine Int.ediv_lt_of_lt_mul h2 ?_
 have : (2 : Int) ^ 13 = 8192 := by decide
 omega
theorem vo {lim x : Int} {k : Nat} (h : ¬ lim ≤ x / 2 ^ k) : ∀ f, ma lim x f k = k
 | 0 => rfl
 | f + 1 => if_neg h
theorem sV {lim x : Int} {k : Nat} (hk : k < 16) (h : lim ≤ x / 2 ^ k) : ma lim x (16 - k) k = ma lim x (16 - (k + 1)) (k + 1) := by
 rw [show 16 - k = (16 - (k + 1)) + 1 by omega]
 exact if_pos h
structure Mr (lim x : Int) (m : Nat) : Prop where
 lt : x / 2 ^ m < lim
 ge : m = 0 ∨ lim ≤ x / 2 ^ (m - 1)
 le : m ≤ 13
theorem vK {lim x : Int} (hl : 4 ≤ lim) (hx : 0 ≤ x ∧ x < 32768) : ∀ f k, f + k = 16 → k ≤ 13 → (k = 0 ∨ lim ≤ x / 2 ^ (k - 1)) → Mr lim x (ma lim x f k)
 | 0, k, h, hk, _ => by omega
 | f + 1, k, h, hk, hg => by
  simp only [ma]
  split
  ·rename_i hc
   have hk2 : k < 13 := by
    rcases Nat.lt_or_ge k 13 with h1 | h1
    ·exact h1
    ·have := wi hx h1; omega
   exact vK hl hx f (k + 1) (by omega) (by omega) (.inr hc)
  ·rename_i hc
   exact ⟨by omega, hg, hk⟩
theorem tc {lim x : Int} (hl : 4 ≤ lim) (hx : 0 ≤ x ∧ x < 32768) : Mr lim x (lI lim x) := vK hl hx 16 0 rfl (by omega) (.inl rfl)
theorem BP (x : Int) (m : Nat) : 0 ≤ x % 2 ^ m ∧ x % 2 ^ m < 2 ^ m ∧ x / 2 ^ m * 2 ^ m + x % 2 ^ m = x := by
 have hp : (0 : Int) < 2 ^ m := Int.pow_pos (by decide)
 exact ⟨Int.emod_nonneg _ (by omega), Int.emod_lt_of_pos _ hp, by have := Int.mul_ediv_add_emod x (2 ^ m); rw [Int.mul_comm] at this; exact this⟩
theorem rJ {n : Int} (h : 3 ≤ n ∧ n ≤ 258) : 257 ≤ eM n ∧ eM n ≤ 285 ∧ ga (eM n - 257) = ij n ∧ j9 (eM n - 257) + iG n = n ∧ 0 ≤ iG n ∧ iG n < 2 ^ ij n ∧ ij n ≤ 13 := by
 unfold eM ij iG
 by_cases h1 : n - 3 = 255
 ·rw [if_pos h1, if_pos h1, if_pos h1]
  have : n = 258 := by omega
  subst this
  exact ⟨by decide, by decide, by decide, by decide, by decide, by decide, by decide⟩
 ·rw [if_neg h1, if_neg h1, if_neg h1]
  by_cases h2 : n - 3 < 8
  ·rw [if_pos h2, if_pos h2, if_pos h2]
   refine ⟨by omega, by omega, ?_, ?_, by decide, by decide, by decide⟩
   ·exact uc (.inl (by omega))
   ·rw [yU (by omega)]; omega
  ·rw [if_neg h2, if_neg h2, if_neg h2]
   have hM := tc (lim := 8) (x := n - 3) (by decide) (by omega)
   generalize lI 8 (n - 3) = m at *
   have hm0 : m ≠ 0 := by
    intro e; subst e
    have := hM.lt
    simp at this; omega
   have hg := hM.ge.resolve_left hm0
   have hd := Gm (n - 3) (m - 1)
   rw [show m - 1 + 1 = m by omega] at hd
   have hl := hM.lt
   obtain ⟨e1, e2, e3⟩ := BP (n - 3) m
   have hm5 : m ≤ 5 := by
    rcases Nat.lt_or_ge m 6 with h6 | h6
    ·omega
    ·exfalso
     have h7 : (n - 3) / 2 ^ (m - 1) ≤ (n - 3) / 2 ^ 5 := by
      have e : (m - 1) = 5 + (m - 6) := by omega
      rw [e, Int.pow_add, ← Int.ediv_ediv_of_nonneg (by decide)]
      exact Int.ediv_le_self _ (Int.ediv_nonneg (by omega) (by decide))
     have : (2 : Int) ^ 5 = 32 := by decide
     rw [this] at h7
     omega
   generalize hq : (n - 3) / 2 ^ m = q at *
   have hs : 257 + 4 * (m : Int) + q - 257 = 4 * (m : Int) + q := by omega
   rw [hs]
   have hK : fY (4 * (m : Int) + q) = m := by unfold fY; omega
   refine ⟨by omega, by omega, ?_, ?_, e1, e2, by omega⟩
   ·rw [z6 (by omega) (by omega), hK]
   ·rw [Gz (by omega) (by omega), hK, show 4 + (4 * (m : Int) + q) % 4 = q by omega]
    omega
theorem rm {f : Int} (h : 1 ≤ f ∧ f ≤ 32768) : 0 ≤ ef f ∧ ef f < 30 ∧ gH (ef f) = jw f ∧ mf (ef f) + jV f = f ∧ 0 ≤ jV f ∧ jV f < 2 ^ jw f ∧ jw f ≤ 13 := by
 unfold ef jw jV
 by_cases h2 : f - 1 < 4
 ·rw [if_pos h2, if_pos h2, if_pos h2]
  refine ⟨by omega, by omega, uD (by omega), ?_, by decide, by decide, by decide⟩
  rw [uk (by omega)]; omega
 ·rw [if_neg h2, if_neg h2, if_neg h2]
  have hM := tc (lim := 4) (x := f - 1) (by decide) (by omega)
  generalize lI 4 (f - 1) = m at *
  have hm0 : m ≠ 0 := by
   intro e; subst e
   have := hM.lt
   simp at this; omega
  have hg := hM.ge.resolve_left hm0
  have hd := Gm (f - 1) (m - 1)
  rw [show m - 1 + 1 = m by omega] at hd
  have hl := hM.lt
  have hle := hM.le
  obtain ⟨e1, e2, e3⟩ := BP (f - 1) m
  generalize hq : (f - 1) / 2 ^ m = q at *
  have hK : fU (2 * (m : Int) + q) = m := by unfold fU; omega
  refine ⟨by omega, by omega, ?_, ?_, e1, e2, by omega⟩
  ·rw [vC (by omega), hK]
  ·rw [Bo (by omega), hK, show 2 + (2 * (m : Int) + q) % 2 = q by omega]
   omega
theorem za {x : Int} {m : Nat} (hx : 0 ≤ x ∧ x < 32768) (hm : m ≤ 13) : IntKind.i64.wrap ((BitVec.ofInt IntKind.i64.bits x &&& BitVec.ofInt IntKind.i64.bits (2 ^ m - 1)).toNat : Int) = x % 2 ^ m := by
 obtain ⟨a, rfl⟩ : ∃ a : Nat, x = (a : Int) := ⟨x.toNat, by omega⟩
 have hp : (2 : Nat) ^ m ≤ 8192 := Nat.pow_le_pow_right (n := 2) (by decide) hm
 have hp0 : 0 < (2 : Nat) ^ m := Nat.pow_pos (by decide)
 have e1 : (2 : Int) ^ m - 1 = ((2 ^ m - 1 : Nat) : Int) := by
  have : ((2 : Int) ^ m) = ((2 ^ m : Nat) : Int) := by simp
  rw [this]; omega
 have e : IntKind.i64.bits = 64 := rfl
 rw [e1, e, BitVec.toNat_and, ep, ep, Nat.mod_eq_of_lt (by omega), Nat.mod_eq_of_lt (by omega), Nat.and_two_pow_sub_one_eq_mod]
 have h3 : a % 2 ^ m < 2 ^ m := Nat.mod_lt _ hp0
 rw [Sl.gQ (by omega) (by omega)]
 simp
theorem GK {m : Nat} (hm : m ≤ 13) : IntKind.i64.wrap (1 * 2 ^ (min ((m : Nat) : Int).toNat IntKind.i64.bits)) = 2 ^ m := by
 have := (jQ (x := 1) (n := m) (by decide) (by decide) hm (d := (m : Int)) rfl).1
 rw [this, Int.one_mul]
theorem pe {m : Nat} (hm : m ≤ 13) : (1 : Int) ≤ 2 ^ m ∧ (2 : Int) ^ m ≤ 8192 := by
 have h1 := Nat.pow_le_pow_right (n := 2) (by decide) hm
 have h2 : 0 < (2 : Nat) ^ m := Nat.pow_pos (by decide)
 have e : ((2 : Int) ^ m) = ((2 ^ m : Nat) : Int) := by simp
 rw [e]; omega
def jt (ls ds : List Int) (t : aZ) : List Int := if t.n = 0 then wb ls t.lit else wb ls (eM t.n) ++ aQ (iG t.n) (ij t.n) ++ wb ds (ef t.aL) ++ aQ (jV t.aL) (jw t.aL)
theorem FB {ls ds : List Int} {t : aZ} (h : t.n = 0) : jt ls ds t = wb ls t.lit := if_pos h
theorem zl {ls ds : List Int} {t : aZ} (h : ¬ t.n = 0) : jt ls ds t = wb ls (eM t.n) ++ aQ (iG t.n) (ij t.n) ++ wb ds (ef t.aL) ++ aQ (jV t.aL) (jw t.aL) := if_neg h
def cv (ls ds : List Int) (l : List aZ) : List Int := l.flatMap (jt ls ds)
structure Fits (ls ds : List Int) (l : List aZ) : Prop where
 ok : ∀ t ∈ l, iu t
 lit : ∀ t ∈ l, t.n = 0 → t.lit < ls.length ∧ fT ls t.lit = true
 cp : ∀ t ∈ l, t.n ≠ 0 → eM t.n < ls.length ∧ fT ls (eM t.n) = true ∧ ef t.aL < ds.length ∧ fT ds (ef t.aL) = true
 end_ : (256 : Int) < ls.length ∧ fT ls 256 = true
theorem Ci (ls ds : List Int) (l : List aZ) : cv ls ds (l.take 0) = [] := rfl
theorem AK {ls ds : List Int} {l : List aZ} {k : Nat} (h : k < l.length) : cv ls ds (l.take k) ++ jt ls ds l[k] = cv ls ds (l.take (k + 1)) := by
 unfold cv
 rw [List.take_add_one, List.getElem?_eq_getElem h, List.flatMap_append]
 simp
theorem EF {ls ds : List Int} (hl : Vl ls) (hd : Vl ds) {t : aZ} (ht : iu t) : (jt ls ds t).length ≤ 56 := by
 unfold jt
 have w1 : ∀ (q : List Int) (hq : Vl q) (s : Int), (wb q s).length ≤ 15 := fun q hq s => by rw [jM]; have := mB hq s; omega
 split
 ·have := w1 ls hl t.lit; omega
 ·rcases ht.pT with h | ⟨h0, h1, h2, h3, h4⟩
  ·omega
  ·have a1 := (rJ ⟨h1, h2⟩).2.2.2.2.2.2
   have a2 := (rm ⟨h3, h4⟩).2.2.2.2.2.2
   have b1 := w1 ls hl (eM t.n)
   have b2 := w1 ds hd (ef t.aL)
   simp only [List.length_append, dH]
   omega
theorem jG {ls ds : List Int} (hl : Vl ls) (hd : Vl ds) : ∀ {l : List aZ}, (∀ t ∈ l, iu t) → (cv ls ds l).length ≤ 56 * l.length
 | [], _ => by simp [cv]
 | t :: l, h => by
  have h1 := EF hl hd (h t (by simp))
  have h2 := jG hl hd (l := l) (fun x hx => h x (by simp [hx]))
  simp only [cv, List.flatMap_cons, List.length_append, List.length_cons] at h2 ⊢
  omega
end Go.ad
namespace Go.aJ
abbrev Pk := Int × List Int
def fq : List Pk → List Pk
 | a :: b :: l => (a.1 + b.1, a.2 ++ b.2) :: fq l
 | _ => []
theorem rE : ∀ l : List Pk, (fq l).length = l.length / 2
 | [] => rfl
 | [_] => by simp [fq]
 | a :: b :: l => by simp only [fq, List.length_cons]; rw [rE l]; omega
def sy (l : List Pk) (m : Nat) : List Int := (l.take m).flatMap (·.2)
theorem xV : ∀ (l : List Pk) (p : Nat), 2 * p ≤ l.length → sy (fq l) p = sy l (2 * p)
 | l, 0, _ => by simp [sy]
 | [], p + 1, h => by simp at h
 | [_], p + 1, h => by simp at h; omega
 | a :: b :: l, p + 1, h => by
  have ih := xV l p (by simp at h; omega)
  unfold sy at ih ⊢
  rw [show 2 * (p + 1) = 2 * p + 1 + 1 by omega]
  simp only [fq, List.take_succ_cons, List.flatMap_cons, ih, List.append_assoc]
def kv : List Pk → List Pk → List Pk
 | [], P => P
 | A, [] => A
 | a :: A, b :: P => if a.1 ≤ b.1 then a :: kv A (b :: P) else b :: kv (a :: A) P
termination_by A P => A.length + P.length
theorem lQ (A : List Pk) : kv A [] = A := by cases A <;> simp [kv]
theorem mZ (P : List Pk) : kv [] P = P := by simp [kv]
theorem nj (a b : Pk) (A P : List Pk) : kv (a :: A) (b :: P) = if a.1 ≤ b.1 then a :: kv A (b :: P) else b :: kv (a :: A) P := by simp [kv]
abbrev lg (l : List Pk) : Prop := l.Pairwise (fun x y => x.1 ≤ y.1)
theorem zw : ∀ (n : Nat) (A P : List Pk), A.length + P.length = n → (kv A P).length = n := by
 intro n
 induction n with
 | zero => intro A P h; have h1 : A = [] := List.length_eq_zero_iff.1 (by omega); have h2 : P = [] := List.length_eq_zero_iff.1 (by omega); subst h1; subst h2; simp [kv]
 | succ n ih =>
  intro A P h
  cases A with
  | nil => rw [mZ]; simpa using h
  | cons a A =>
   cases P with
   | nil => rw [lQ]; simpa using h
   | cons b P =>
    rw [nj]
    simp only [List.length_cons] at h
    split
    ·rw [List.length_cons, ih A (b :: P) (by simp; omega)]
    ·rw [List.length_cons, ih (a :: A) P (by simp; omega)]
theorem Eb : ∀ (m : Nat) (A P : List Pk), lg A → m ≤ A.length + P.length → ∃ q p, q + p = m ∧ q ≤ A.length ∧ p ≤ P.length ∧ ((kv A P).take m).Perm (A.take q ++ P.take p) ∧ ∀ i, i < A.length → 0 < p → (A.getD i (0, [])).1 ≤ (P.getD (p - 1) (0, [])).1 → i < q := by
 intro m
 induction m with
 | zero => intro A P _ _; exact ⟨0, 0, rfl, Nat.zero_le _, Nat.zero_le _, by simp, fun i _ h => by omega⟩
 | succ m ih =>
  intro A P hA hm
  cases A with
  | nil => exact ⟨0, m + 1, by omega, Nat.zero_le _, by simpa using hm, by rw [mZ]; simp, fun i h => by simp at h⟩
  | cons a A =>
   cases P with
   | nil => exact ⟨m + 1, 0, by omega, by simpa using hm, Nat.zero_le _, by rw [lQ]; simp, fun i _ h => by omega⟩
   | cons b P =>
    have hA2 := List.pairwise_cons.1 hA
    rw [nj]
    by_cases hab : a.1 ≤ b.1
    ·rw [if_pos hab]
     obtain ⟨q, p, h1, h2, h3, h4, h5⟩ := ih A (b :: P) hA2.2 (by simp at hm ⊢; omega)
     refine ⟨q + 1, p, by omega, by simp; omega, h3, ?_, fun i hi hp hw => ?_⟩
     ·simp only [List.take_succ_cons, List.cons_append]
      exact h4.cons a
     ·cases i with
      | zero => omega
      | succ i =>
       have := h5 i (by simpa using hi) hp (by simpa using hw)
       omega
    ·rw [if_neg hab]
     obtain ⟨q, p, h1, h2, h3, h4, h5⟩ := ih (a :: A) P hA (by simp at hm ⊢; omega)
     refine ⟨q, p + 1, by omega, h2, by simp; omega, ?_, fun i hi hp hw => ?_⟩
     ·simp only [List.take_succ_cons]
      exact (h4.cons b).trans List.perm_middle.symm
     ·rw [Nat.add_sub_cancel] at hw
      cases p with
      | zero =>
       exfalso
       have hw2 : ((a :: A).getD i (0, [])).1 ≤ b.1 := by simpa using hw
       cases i with
       | zero => simp at hw2; omega
       | succ i =>
        have hi2 : i < A.length := by simpa using hi
        have hmem : A[i] ∈ A := List.getElem_mem hi2
        have hle := hA2.1 _ hmem
        have : ((a :: A).getD (i + 1) (0, [])) = A[i] := by simp [List.getD_eq_getElem?_getD, hi2]
        rw [this] at hw2
        omega
      | succ p => exact h5 i hi (by omega) (by simpa using hw)
theorem oh {x : Pk} : ∀ (n : Nat) (A P : List Pk), A.length + P.length = n → x ∈ kv A P → x ∈ A ∨ x ∈ P := by
 intro n
 induction n with
 | zero => intro A P h hx; have h1 : A = [] := List.length_eq_zero_iff.1 (by omega); have h2 : P = [] := List.length_eq_zero_iff.1 (by omega); subst h1; subst h2; simp [kv] at hx
 | succ n ih =>
  intro A P h hx
  cases A with
  | nil => rw [mZ] at hx; exact .inr hx
  | cons a A =>
   cases P with
   | nil => rw [lQ] at hx; exact .inl hx
   | cons b P =>
    rw [nj] at hx
    simp only [List.length_cons] at h
    split at hx
    ·rcases List.mem_cons.1 hx with rfl | hx
     ·exact .inl (List.mem_cons_self ..)
     ·rcases ih A (b :: P) (by simp; omega) hx with h1 | h1
      ·exact .inl (List.mem_cons_of_mem _ h1)
      ·exact .inr h1
    ·rcases List.mem_cons.1 hx with rfl | hx
     ·exact .inr (List.mem_cons_self ..)
     ·rcases ih (a :: A) P (by simp; omega) hx with h1 | h1
      ·exact .inl h1
      ·exact .inr (List.mem_cons_of_mem _ h1)
theorem zv : ∀ (n : Nat) (A P : List Pk), A.length + P.length = n → lg A → lg P → lg (kv A P) := by
 intro n
 induction n with
 | zero => intro A P h _ _; have h1 : A = [] := List.length_eq_zero_iff.1 (by omega); have h2 : P = [] := List.length_eq_zero_iff.1 (by omega); subst h1; subst h2; simp [kv]
 | succ n ih =>
  intro A P h hA hP
  cases A with
  | nil => rw [mZ]; exact hP
  | cons a A =>
   cases P with
   | nil => rw [lQ]; exact hA
   | cons b P =>
    have hA2 := List.pairwise_cons.1 hA
    have hP2 := List.pairwise_cons.1 hP
    simp only [List.length_cons] at h
    rw [nj]
    split
    ·rename_i hab
     refine List.pairwise_cons.2 ⟨fun x hx => ?_, ih A (b :: P) (by simp; omega) hA2.2 hP⟩
     rcases oh _ A (b :: P) rfl hx with h1 | h1
     ·exact hA2.1 x h1
     ·rcases List.mem_cons.1 h1 with rfl | h1
      ·exact hab
      ·exact Int.le_trans hab (hP2.1 x h1)
    ·rename_i hab
     refine List.pairwise_cons.2 ⟨fun x hx => ?_, ih (a :: A) P (by simp; omega) hA hP2.2⟩
     rcases oh _ (a :: A) P rfl hx with h1 | h1
     ·rcases List.mem_cons.1 h1 with rfl | h1
      ·omega
      ·exact Int.le_trans (by omega) (hA2.1 x h1)
     ·exact hP2.1 x h1
theorem Bg (c : Int) : ∀ (n : Nat) (A P : List Pk), A.length + P.length = n → lg A → (kv A P).filter (fun x => decide (x.1 = c)) = A.filter (fun x => decide (x.1 = c)) ++ P.filter (fun x => decide (x.1 = c)) := by
 intro n
 induction n with
 | zero => intro A P h _; have h1 : A = [] := List.length_eq_zero_iff.1 (by omega); have h2 : P = [] := List.length_eq_zero_iff.1 (by omega); subst h1; subst h2; simp [kv]
 | succ n ih =>
  intro A P h hA
  cases A with
  | nil => rw [mZ]; simp
  | cons a A =>
   cases P with
   | nil => rw [lQ]; simp
   | cons b P =>
    have hA2 := List.pairwise_cons.1 hA
    simp only [List.length_cons] at h
    rw [nj]
    split
    ·have := ih A (b :: P) (by simp; omega) hA2.2
     rw [List.filter_cons, this, List.filter_cons (xs := A)]
     split <;> simp
    ·rename_i hab
     have := ih (a :: A) P (by simp; omega) hA
     rw [List.filter_cons, this]
     by_cases hb : b.1 = c
     ·have hz : (a :: A).filter (fun x => decide (x.1 = c)) = [] := by
       rw [List.filter_eq_nil_iff]
       intro x hx
       simp only [decide_eq_true_eq]
       rcases List.mem_cons.1 hx with rfl | hx
       ·omega
       ·have := hA2.1 x hx; omega
      rw [hz]
      simp [List.filter_cons, hb]
     ·simp [List.filter_cons, hb]
structure SS (l l' : List Pk) : Prop where
 uK : lg l'
 DW : ∀ c, l'.filter (fun x => decide (x.1 = c)) = l.filter (fun x => decide (x.1 = c))
theorem DI {l : List Pk} (h : lg l) : aV.Sd (fun x : Pk => x.1) (0, []) l 0 l.length := fun i j h1 h2 h3 => by
 rcases Nat.lt_or_ge i j with hij | hij
 ·have := List.pairwise_iff_getElem.1 h i j (by omega) h3 hij
  simpa [List.getD_eq_getElem?_getD, h3, show i < l.length by omega] using this
 ·obtain rfl : i = j := by omega
  exact Int.le_refl _
theorem SS.eq {A P l' : List Pk} (h : SS (A ++ P) l') (hA : lg A) (hP : lg P) : l' = kv A P :=
 aV.unique (key := fun x : Pk => x.1) (d := (0, [])) (DI h.uK) (DI (zv _ A P rfl hA hP)) fun c => by
  rw [h.DW c, Bg c _ A P rfl hA, List.filter_append]
end Go.aJ
namespace Go.aJ
def lv (A : List Pk) : Nat → List Pk
 | 0 => []
 | j + 1 => kv A (fq (lv A j))
theorem B9 {c : Int} : ∀ (l : List Pk), (∀ x ∈ l, c ≤ x.1) → ∀ x ∈ fq l, 2 * c ≤ x.1
 | [], _, x, hx => by simp [fq] at hx
 | [_], _, x, hx => by simp [fq] at hx
 | a :: b :: l, h, x, hx => by
  simp only [fq, List.mem_cons] at hx
  rcases hx with rfl | hx
  ·have h1 := h a (by simp)
   have h2 := h b (by simp)
   show 2 * c ≤ a.1 + b.1
   omega
  ·exact B9 l (fun y hy => h y (by simp [hy])) x hx
theorem rU : ∀ (l : List Pk), lg l → lg (fq l)
 | [], _ => by simp [fq]
 | [_], _ => by simp [fq]
 | a :: b :: l, h => by
  have h1 := List.pairwise_cons.1 h
  have h2 := List.pairwise_cons.1 h1.2
  simp only [fq]
  refine List.pairwise_cons.2 ⟨fun x hx => ?_, rU l h2.2⟩
  have h3 := B9 (c := b.1) l (fun y hy => h2.1 y hy) x hx
  have h4 := h1.1 b (by simp)
  show a.1 + b.1 ≤ x.1
  omega
theorem x8 {A : List Pk} (hA : lg A) : ∀ j, lg (lv A j)
 | 0 => List.Pairwise.nil
 | j + 1 => zv _ A _ rfl hA (rU _ (x8 hA j))
theorem n7 (A : List Pk) (j : Nat) : (lv A (j + 1)).length = A.length + (lv A j).length / 2 := by
 rw [lv, zw _ A _ rfl, rE]
theorem JC {A : List Pk} {most : Nat} (hn : A.length ≤ 2 ^ most) : ∀ j, j + 1 ≤ most → 2 * A.length ≤ (lv A (j + 1)).length + 2 ^ (most - j) := by
 intro j
 induction j with
 | zero =>
  intro h
  rw [n7]
  simp [lv]
  omega
 | succ j ih =>
  intro h
  have h1 := ih (by omega)
  rw [n7 A (j + 1)]
  have e : 2 ^ (most - j) = 2 * 2 ^ (most - (j + 1)) := by rw [show most - j = (most - (j + 1)) + 1 by omega, Nat.pow_succ]; omega
  omega
theorem va {A : List Pk} {most : Nat} (hm : 1 ≤ most) (hn : A.length ≤ 2 ^ most) : 2 * A.length - 2 ≤ (lv A most).length := by
 have h := JC hn (most - 1) (by omega)
 rw [show most - 1 + 1 = most by omega, show most - (most - 1) = 1 by omega] at h
 omega
theorem C7 : ∀ (k : Nat) (l : List Pk), 2 * k + 1 < l.length → (fq l).take (k + 1) = (fq l).take k ++ [((l.getD (2 * k) (0, [])).1 + (l.getD (2 * k + 1) (0, [])).1, (l.getD (2 * k) (0, [])).2 ++ (l.getD (2 * k + 1) (0, [])).2)]
 | 0, [], h => by simp at h
 | 0, [_], h => by simp at h
 | 0, a :: b :: l, _ => by simp [fq]
 | k + 1, [], h => by simp at h
 | k + 1, [_], h => by simp at h
 | k + 1, a :: b :: l, h => by
  have ih := C7 k l (by simp at h; omega)
  simp only [fq, List.take_succ_cons, ih]
  rw [show 2 * (k + 1) = 2 * k + 1 + 1 by omega]
  simp only [List.getD_cons_succ, List.cons_append]
def sm (A : List Pk) (i : Nat) : Int := (A.getD i (0, [])).2.headD 0
structure Lf (A : List Pk) : Prop where
 uK : lg A
 one : ∀ i, i < A.length → (A.getD i (0, [])).2 = [sm A i]
 inj : ∀ i j, i < A.length → j < A.length → sm A i = sm A j → i = j
 pos : ∀ x ∈ A, 0 < x.1
def Hv (A : List Pk) (e : Pk) : Prop := 0 ≤ e.1 ∧ ∀ i, i < A.length → sm A i ∈ e.2 → (A.getD i (0, [])).1 ≤ e.1
theorem Ha {A : List Pk} (h : Lf A) {e : Pk} (he : e ∈ A) : Hv A e := by
 refine ⟨Int.le_of_lt (h.pos e he), fun i hi hs => ?_⟩
 obtain ⟨k, hk, rfl⟩ := List.getElem_of_mem he
 have h1 := h.one k hk
 have e1 : A.getD k (0, []) = A[k] := by simp [hk]
 rw [e1] at h1
 rw [h1] at hs
 have := h.inj i k hi hk (by simpa using hs)
 subst this
 rw [e1]
 exact Int.le_refl _
theorem yf {A : List Pk} : ∀ (l : List Pk), (∀ e ∈ l, Hv A e) → ∀ e ∈ fq l, Hv A e
 | [], _, e, he => by simp [fq] at he
 | [_], _, e, he => by simp [fq] at he
 | a :: b :: l, h, e, he => by
  simp only [fq, List.mem_cons] at he
  rcases he with rfl | he
  ·have h1 := h a (by simp)
   have h2 := h b (by simp)
   refine ⟨Int.add_nonneg h1.1 h2.1, fun i hi hs => ?_⟩
   show (A.getD i (0, [])).1 ≤ a.1 + b.1
   rcases List.mem_append.1 hs with hs | hs
   ·have := h1.2 i hi hs; have := h2.1; omega
   ·have := h2.2 i hi hs; have := h1.1; omega
  ·exact yf l (fun y hy => h y (by simp [hy])) e he
theorem F7 {A : List Pk} (h : Lf A) : ∀ j, ∀ e ∈ lv A j, Hv A e
 | 0, e, he => by simp [lv] at he
 | j + 1, e, he => by
  rcases oh _ A _ rfl he with h1 | h1
  ·exact Ha h h1
  ·exact yf _ (F7 h j) e h1
def ct (A : List Pk) (j m i : Nat) : Nat := (sy (lv A j) m).count (sm A i)
theorem tr {A : List Pk} (h : Lf A) {i : Nat} (hi : i < A.length) : ∀ q, q ≤ A.length → ((A.take q).flatMap (·.2)).count (sm A i) = if i < q then 1 else 0
 | 0, _ => by simp
 | q + 1, hq => by
  have ih := tr h hi q (by omega)
  have hq2 : q < A.length := by omega
  have h1 := h.one q hq2
  have e1 : A.getD q (0, []) = A[q] := by simp [hq2]
  rw [e1] at h1
  rw [List.take_add_one, List.getElem?_eq_getElem hq2, List.flatMap_append, List.count_append, ih]
  simp only [Option.toList_some, List.flatMap_cons, List.flatMap_nil, List.append_nil, h1]
  rw [List.count_singleton]
  by_cases e : i = q
  ·subst e; simp
  ·have hne : ¬ sm A q = sm A i := fun hh => e (h.inj q i hq2 hi hh).symm
   simp only [beq_iff_eq, hne, if_false]
   split <;> split <;> omega
theorem yY {A : List Pk} {j i : Nat} : ct A j 0 i = 0 := by simp [ct, sy]
theorem It {A : List Pk} (h : Lf A) {j m : Nat} (hm : m ≤ (lv A (j + 1)).length) : ∃ q p, q + p = m ∧ q ≤ A.length ∧ 2 * p ≤ (lv A j).length ∧ (∀ i, i < A.length → ct A (j + 1) m i = (if i < q then 1 else 0) + ct A j (2 * p) i) ∧ ∀ i, i < A.length → q ≤ i → ct A j (2 * p) i = 0 := by
 rw [lv, zw _ A _ rfl] at hm
 obtain ⟨q, p, h1, h2, h3, h4, h5⟩ := Eb m A (fq (lv A j)) h.uK hm
 have h6 : 2 * p ≤ (lv A j).length := by rw [rE] at h3; omega
 refine ⟨q, p, h1, h2, h6, fun i hi => ?_, fun i hi hq => ?_⟩
 ·have hp := (List.Perm.flatMap_right (fun x : Pk => x.2) h4).count_eq (sm A i)
  rw [List.flatMap_append, List.count_append, tr h hi q h2] at hp
  have := xV (lv A j) p h6
  unfold ct
  rw [← this]
  exact hp
 ·have hz : ¬ 0 < ct A j (2 * p) i := fun hpos => by
   unfold ct at hpos
   rw [← xV (lv A j) p h6] at hpos
   obtain ⟨e, he, hs⟩ := List.mem_flatMap.1 (List.count_pos_iff.1 hpos)
   have hp0 : 0 < p := by
    rcases Nat.eq_zero_or_pos p with h0 | h0
    ·subst h0; simp at he
    ·exact h0
   have hep : e ∈ fq (lv A j) := List.mem_of_mem_take he
   have hv := (yf _ (F7 h j) e hep).2 i hi hs
   have hsr := rU _ (x8 h.uK j)
   obtain ⟨k, hk, hke⟩ := List.getElem_of_mem he
   rw [List.length_take] at hk
   rw [List.getElem_take] at hke
   have hle : e.1 ≤ ((fq (lv A j)).getD (p - 1) (0, [])).1 := by
    have e1 : (fq (lv A j)).getD (p - 1) (0, []) = (fq (lv A j))[p - 1]'(by omega) := by simp [show p - 1 < (fq (lv A j)).length by omega]
    rw [e1, ← hke]
    rcases Nat.lt_or_ge k (p - 1) with hlt | hge
    ·exact List.pairwise_iff_getElem.1 hsr k (p - 1) (by omega) (by omega) hlt
    ·have hkk : k = p - 1 := by omega
     subst hkk
     exact Int.le_refl _
   have := h5 i hi hp0 (Int.le_trans hv hle)
   omega
  omega
def gz (f : Nat → Nat) : Nat → Nat
 | 0 => 0
 | n + 1 => gz f n + f n
theorem mi {f g : Nat → Nat} : ∀ n, (∀ i, i < n → f i = g i) → gz f n = gz g n
 | 0, _ => rfl
 | n + 1, h => by rw [gz, gz, mi n (fun i hi => h i (by omega)), h n (by omega)]
theorem ub (f g : Nat → Nat) : ∀ n, gz (fun i => f i + g i) n = gz f n + gz g n
 | 0 => rfl
 | n + 1 => by simp only [gz]; rw [ub f g n]; omega
theorem yJ (c : Nat) {q : Nat} : ∀ n, gz (fun i => if i < q then c else 0) n = min q n * c
 | 0 => by simp [gz]
 | n + 1 => by
  simp only [gz]
  rw [yJ c n]
  split
  ·rw [show min q (n + 1) = min q n + 1 by omega, Nat.add_mul, Nat.one_mul]
  ·rw [show min q (n + 1) = min q n by omega, Nat.add_zero]
theorem qi (c : Nat) : ∀ n, gz (fun _ => c) n = n * c
 | 0 => by simp [gz]
 | n + 1 => by simp only [gz]; rw [qi c n, Nat.add_mul, Nat.one_mul]
theorem zx {f : Nat → Nat} {k : Nat} : ∀ n, k < n → (∀ i, i < n → 1 ≤ f i) → f k + (n - 1) ≤ gz f n
 | 0, h, _ => by omega
 | n + 1, h, hf => by
  simp only [gz]
  have hn := hf n (by omega)
  by_cases e : k = n
  ·have hm : ∀ m, m ≤ n → m ≤ gz f m := by
    intro m
    induction m with
    | zero => intro _; exact Nat.zero_le _
    | succ m ih => intro hm; have h1 := ih (by omega); have h2 := hf m (by omega); simp only [gz]; omega
   have h3 := hm n (Nat.le_refl _)
   rw [e]
   omega
  ·have := zx (f := f) (k := k) n (by omega) (fun i hi => hf i (by omega))
   omega
theorem taken {A : List Pk} (h : Lf A) : ∀ j m, m ≤ (lv A j).length → (∀ i, i < A.length → ct A j m i ≤ j) ∧ 2 * gz (fun i => 2 ^ j - 2 ^ (j - ct A j m i)) A.length = m * 2 ^ j := by
 intro j
 induction j with
 | zero =>
  intro m hm
  obtain rfl : m = 0 := by simpa [lv] using hm
  refine ⟨fun i hi => by rw [yY]; exact Nat.le_refl _, ?_⟩
  rw [mi (g := fun _ => 0) A.length (fun i _ => by rw [yY]), qi]
  simp
 | succ j ih =>
  intro m hm
  obtain ⟨q, p, h1, h2, h3, h4, h5⟩ := It h hm
  obtain ⟨i1, i2⟩ := ih (2 * p) h3
  refine ⟨fun i hi => ?_, ?_⟩
  ·rw [h4 i hi]
   have := i1 i hi
   split <;> omega
  ·have e : gz (fun i => 2 ^ (j + 1) - 2 ^ (j + 1 - ct A (j + 1) m i)) A.length = gz (fun i => (if i < q then 2 ^ j else 0) + (2 ^ j - 2 ^ (j - ct A j (2 * p) i))) A.length := by
    refine mi _ (fun i hi => ?_)
    rw [h4 i hi]
    have hc := i1 i hi
    have hp2 : 2 ^ (j + 1) = 2 * 2 ^ j := by rw [Nat.pow_succ]; omega
    by_cases hiq : i < q
    ·rw [if_pos hiq, if_pos hiq, show j + 1 - (1 + ct A j (2 * p) i) = j - ct A j (2 * p) i by omega]
     have : 2 ^ (j - ct A j (2 * p) i) ≤ 2 ^ j := Nat.pow_le_pow_right (by decide) (by omega)
     omega
    ·rw [if_neg hiq, if_neg hiq, h5 i hi (by omega)]
     simp
   rw [e, ub, yJ, Nat.min_eq_left h2, Nat.mul_add, i2, Nat.pow_succ, ← h1, Nat.add_mul]
   have e2 : 2 * (q * 2 ^ j) = q * (2 ^ j * 2) := by rw [Nat.mul_comm 2, Nat.mul_assoc]
   have e3 : 2 * p * 2 ^ j = p * (2 ^ j * 2) := by rw [Nat.mul_comm 2 p, Nat.mul_assoc, Nat.mul_comm 2]
   omega
theorem whole {A : List Pk} (h : Lf A) {most : Nat} (hm : 1 ≤ most) (hn : A.length ≤ 2 ^ most) (h2 : 2 ≤ A.length) : (∀ i, i < A.length → 1 ≤ ct A most (2 * A.length - 2) i ∧ ct A most (2 * A.length - 2) i ≤ most) ∧ gz (fun i => 2 ^ (most - ct A most (2 * A.length - 2) i)) A.length = 2 ^ most := by
 obtain ⟨i1, i2⟩ := taken h most (2 * A.length - 2) (va hm hn)
 have hs : gz (fun i => (2 ^ most - 2 ^ (most - ct A most (2 * A.length - 2) i)) + 2 ^ (most - ct A most (2 * A.length - 2) i)) A.length = A.length * 2 ^ most := by
  rw [← qi (2 ^ most) A.length]
  refine mi _ (fun i hi => ?_)
  have : 2 ^ (most - ct A most (2 * A.length - 2) i) ≤ 2 ^ most := Nat.pow_le_pow_right (by decide) (by omega)
  omega
 rw [ub] at hs
 have hw : gz (fun i => 2 ^ (most - ct A most (2 * A.length - 2) i)) A.length = 2 ^ most := by
  obtain ⟨n, hn2⟩ : ∃ n, A.length = n + 2 := ⟨A.length - 2, by omega⟩
  rw [hn2] at i2 hs ⊢
  rw [show 2 * (n + 2) - 2 = 2 * (n + 1) by omega] at i2 hs ⊢
  rw [Nat.mul_assoc] at i2
  have e4 : (n + 2) * 2 ^ most = (n + 1) * 2 ^ most + 2 ^ most := by rw [show n + 2 = (n + 1) + 1 by omega, Nat.add_mul (n + 1), Nat.one_mul]
  omega
 refine ⟨fun i hi => ⟨?_, i1 i hi⟩, hw⟩
 rcases Nat.eq_zero_or_pos (ct A most (2 * A.length - 2) i) with h0 | h0
 ·have := zx (f := fun i => 2 ^ (most - ct A most (2 * A.length - 2) i)) A.length hi (fun k _ => Nat.one_le_two_pow)
  simp only [h0, Nat.sub_zero] at this
  omega
 ·exact h0
end Go.aJ
namespace Go.aJ
open Go.ab
def gI (s : Nat → Int) (v : Nat → Int) (base : List Int) : Nat → List Int
 | 0 => base
 | k + 1 => (gI s v base k).set (s k).toNat (v k)
theorem lZ (s v : Nat → Int) (base : List Int) : ∀ k, (gI s v base k).length = base.length
 | 0 => rfl
 | k + 1 => by rw [gI, List.length_set, lZ s v base k]
theorem m7 {s v : Nat → Int} {base : List Int} {x : Nat} : ∀ k, (∀ i, i < k → (s i).toNat ≠ x) → (gI s v base k).getD x 0 = base.getD x 0
 | 0, _ => rfl
 | k + 1, h => by
  rw [gI, List.getD_eq_getElem?_getD, List.getElem?_set_ne (h k (by omega)), ← List.getD_eq_getElem?_getD, m7 k (fun i hi => h i (by omega))]
theorem rz {s v : Nat → Int} {base : List Int} : ∀ k i, i < k → (∀ i j, i < k → j < k → (s i).toNat = (s j).toNat → i = j) → (∀ i, i < k → (s i).toNat < base.length) → (gI s v base k).getD (s i).toNat 0 = v i
 | 0, i, h, _, _ => by omega
 | k + 1, i, h, hinj, hlt => by
  rw [gI, List.getD_eq_getElem?_getD]
  by_cases e : i = k
  ·subst e
   rw [List.getElem?_set_self (by rw [lZ]; exact hlt i (by omega))]
   rfl
  ·rw [List.getElem?_set_ne (fun hh => e (hinj k i (by omega) h hh).symm), ← List.getD_eq_getElem?_getD]
   exact rz k i (by omega) (fun a b ha hb => hinj a b (by omega) (by omega)) (fun a ha => hlt a (by omega))
theorem BU {s v : Nat → Int} {b1 b2 : List Int} {n : Nat} (hl : b1.length = b2.length) (hinj : ∀ i j, i < n → j < n → (s i).toNat = (s j).toNat → i = j) (hlt : ∀ i, i < n → (s i).toNat < b1.length) (h : ∀ x, (∀ i, i < n → (s i).toNat ≠ x) → b1.getD x 0 = b2.getD x 0) : gI s v b1 n = gI s v b2 n := by
 refine List.ext_getElem (by rw [lZ, lZ, hl]) (fun x h1 h2 => ?_)
 have e : ∀ (l : List Int) (hx : x < l.length), l[x] = l.getD x 0 := fun l hx => by simp [hx]
 rw [e _ h1, e _ h2]
 by_cases hx : ∃ i, i < n ∧ (s i).toNat = x
 ·obtain ⟨i, hi, rfl⟩ := hx
  rw [rz n i hi hinj hlt, rz n i hi hinj (fun i hi => by rw [← hl]; exact hlt i hi)]
 ·have hx2 : ∀ i, i < n → (s i).toNat ≠ x := fun i hi he => hx ⟨i, hi, he⟩
  rw [m7 n hx2, m7 n hx2, h x hx2]
theorem sE {l : List Int} {s : Nat} {v : Int} (hs : s < l.length) (h0 : l.getD s 0 = 0) (hv : 0 < v) : ∀ k, gr (l.set s v) k = gr l k + (if s < k then 2 ^ (15 - v.toNat) else 0)
 | 0 => by simp [gr]
 | k + 1 => by
  simp only [gr]
  rw [sE hs h0 hv k]
  unfold lenOf
  by_cases e : s = k
  ·subst e
   have e1 : (l.set s v).getD s 0 = v := by rw [List.getD_eq_getElem?_getD, List.getElem?_set_self hs]; rfl
   rw [e1, h0, if_pos hv, if_neg (by omega), if_neg (by omega), if_pos (by omega)]
  ·have e1 : (l.set s v).getD k 0 = l.getD k 0 := by rw [List.getD_eq_getElem?_getD, List.getElem?_set_ne e, ← List.getD_eq_getElem?_getD]
   rw [e1]
   by_cases hk : s < k
   ·rw [if_pos hk, if_pos (show s < k + 1 by omega)]; exact Int.add_right_comm _ _ _
   ·rw [if_neg hk, if_neg (show ¬ s < k + 1 by omega), Int.add_zero, Int.add_zero]
theorem gm (L x : Nat) : (List.replicate L (0 : Int)).getD x 0 = 0 := by
 rw [List.getD_eq_getElem?_getD, List.getElem?_replicate]; split <;> rfl
theorem u9 {s v : Nat → Int} {L : Nat} : ∀ k, (∀ i j, i < k → j < k → (s i).toNat = (s j).toNat → i = j) → (∀ i, i < k → (s i).toNat < L) → (∀ i, i < k → 0 < v i) → gr (gI s v (List.replicate L 0) k) L = (gz (fun i => 2 ^ (15 - (v i).toNat)) k : Int)
 | 0, _, _, _ => by
  have : ∀ k, gr (List.replicate L 0) k = 0 := by
   intro k
   induction k with
   | zero => rfl
   | succ k ih => simp only [gr]; rw [ih, gm, if_neg (by omega)]; rfl
  rw [gI, this]; rfl
 | k + 1, hinj, hlt, hv => by
  have ih := u9 k (fun a b ha hb => hinj a b (by omega) (by omega)) (fun a ha => hlt a (by omega)) (fun a ha => hv a (by omega))
  rw [gI, sE (by rw [lZ, List.length_replicate]; exact hlt k (by omega)) (by rw [m7 k (fun i hi he => by have := hinj i k (by omega) (by omega) he; omega), gm]) (hv k (by omega)), ih, if_pos (hlt k (by omega))]
  simp only [gz]
  simp
theorem zU (f : Nat → Nat) : ∀ n, gz f n = ((List.range n).map f).sum
 | 0 => rfl
 | n + 1 => by rw [gz, zU f n, List.range_succ, List.map_append, List.sum_append]; simp
theorem yy (g : Int → Nat) (l : List Int) : gz (fun i => g (l.getD i 0)) l.length = (l.map g).sum := by
 rw [zU]
 congr 1
 refine List.ext_getElem (by simp) (fun i h1 h2 => ?_)
 have hi : i < l.length := by simpa using h2
 simp [hi]
theorem EO {l1 l2 : List Int} (g : Int → Nat) (h : l1.Perm l2) : (l1.map g).sum = (l2.map g).sum := (h.map g).sum_nat
def cs (A : List Pk) (most : Nat) : List Int := (List.range A.length).map (fun i => (ct A most (2 * A.length - 2) i : Int))
theorem mr (A : List Pk) (most : Nat) : (cs A most).length = A.length := by simp [cs]
theorem DO {A : List Pk} {most i : Nat} (h : i < A.length) : (cs A most).getD i 0 = (ct A most (2 * A.length - 2) i : Int) := by simp [cs, h]
structure Ln (A : List Pk) (most : Nat) (vs : List Int) : Prop where
 perm : vs.Perm (cs A most)
 down : vs.Pairwise (fun x y => y ≤ x)
def out (A : List Pk) (vs : List Int) (L : Nat) : List Int := gI (sm A) (fun i => vs.getD i 0) (List.replicate L 0) A.length
structure Good (A : List Pk) (most L : Nat) (o : List Int) : Prop where
 len : o.length = L
 leaf : ∀ i, i < A.length → 1 ≤ o.getD (sm A i).toNat 0 ∧ o.getD (sm A i).toNat 0 ≤ most
 rest : ∀ x, (∀ i, i < A.length → (sm A i).toNat ≠ x) → o.getD x 0 = 0
 down : ∀ i j, i ≤ j → j < A.length → o.getD (sm A j).toNat 0 ≤ o.getD (sm A i).toNat 0
 code : aO o = 0
theorem Dj {ls : List Int} (hl : ls.length ≤ 320) (hv : ∀ x ∈ ls, 0 ≤ x ∧ x ≤ 15) (hf : gr ls ls.length = 32768) : aO ls = 0 := by
 have h0 := qu hv ls.length (Nat.le_refl _)
 rw [List.take_length] at h0
 have h15 : left (bx ls) 15 = 0 := by omega
 have hC := jc hl
 have hnn : ∀ n, n ≤ 15 → 0 ≤ left (bx ls) (15 - n) := by
  intro n
  induction n with
  | zero => intro _; rw [Nat.sub_zero]; omega
  | succ n ih =>
   intro hn
   have h1 := ih (by omega)
   rw [show 15 - n = (15 - (n + 1)) + 1 by omega] at h1
   simp only [left] at h1
   have := (hC (15 - (n + 1) + 1)).1
   omega
 rw [rM (by omega) hv, nO (fun n _ h2 => by have := hnn (15 - n) (by omega); rw [show 15 - (15 - n) = n by omega] at this; exact this), h15]
 rfl
theorem M0 {A : List Pk} (h : Lf A) {most L : Nat} (hm : 1 ≤ most) (hm2 : most ≤ 15) (hn : A.length ≤ 2 ^ most) (h2 : 2 ≤ A.length) (hL : L ≤ 320) (hs : ∀ i, i < A.length → 0 ≤ sm A i ∧ sm A i < L) {vs : List Int} (hvs : Ln A most vs) : Good A most L (out A vs L) := by
 obtain ⟨hc, hw⟩ := whole h hm hn h2
 have hvl : vs.length = A.length := by rw [hvs.perm.length_eq, mr]
 have hvb : ∀ i, i < A.length → 1 ≤ vs.getD i 0 ∧ vs.getD i 0 ≤ most := by
  intro i hi
  have hmem : vs[i]'(by omega) ∈ cs A most := hvs.perm.mem_iff.1 (List.getElem_mem _)
  obtain ⟨k, hk, e⟩ := List.getElem_of_mem hmem
  rw [mr] at hk
  have e1 : vs.getD i 0 = vs[i]'(by omega) := by simp [show i < vs.length by omega]
  have e2 := DO (A := A) (most := most) hk
  have e3 : (cs A most).getD k 0 = (cs A most)[k]'(by rw [mr]; exact hk) := by simp [show k < (cs A most).length by rw [mr]; exact hk]
  have := hc k hk
  rw [e1, ← e, ← e3, e2]
  omega
 have hinj : ∀ i j, i < A.length → j < A.length → (sm A i).toNat = (sm A j).toNat → i = j := fun i j hi hj he => h.inj i j hi hj (by have := (hs i hi).1; have := (hs j hj).1; omega)
 have hlt : ∀ i, i < A.length → (sm A i).toNat < (List.replicate L (0 : Int)).length := fun i hi => by rw [List.length_replicate]; have := hs i hi; omega
 have hat : ∀ i, i < A.length → (out A vs L).getD (sm A i).toNat 0 = vs.getD i 0 := fun i hi => rz _ i hi hinj hlt
 have hrest : ∀ x, (∀ i, i < A.length → (sm A i).toNat ≠ x) → (out A vs L).getD x 0 = 0 := fun x hx => by
  unfold out
  rw [m7 _ hx, gm]
 have hlen : (out A vs L).length = L := by unfold out; rw [lZ, List.length_replicate]
 refine ⟨hlen, fun i hi => by rw [hat i hi]; exact hvb i hi, hrest, fun i j hij hj => ?_, ?_⟩
 ·rw [hat i (by omega), hat j hj]
  have e1 : vs.getD i 0 = vs[i]'(by omega) := by simp [show i < vs.length by omega]
  have e2 : vs.getD j 0 = vs[j]'(by omega) := by simp [show j < vs.length by omega]
  rw [e1, e2]
  rcases Nat.lt_or_ge i j with hlt2 | hge
  ·exact List.pairwise_iff_getElem.1 hvs.down i j (by omega) (by omega) hlt2
  ·obtain rfl : i = j := by omega
   exact Int.le_refl _
 ·refine Dj (by omega) (fun x hx => ?_) ?_
  ·obtain ⟨k, hk, rfl⟩ := List.getElem_of_mem hx
   have e1 : (out A vs L)[k] = (out A vs L).getD k 0 := by simp [hk]
   rw [e1]
   by_cases hx2 : ∃ i, i < A.length ∧ (sm A i).toNat = k
   ·obtain ⟨i, hi, rfl⟩ := hx2
    rw [hat i hi]
    have := hvb i hi
    omega
   ·rw [hrest k (fun i hi he => hx2 ⟨i, hi, he⟩)]
    omega
  ·rw [hlen]
   unfold out
   rw [u9 A.length hinj (fun i hi => by have := hs i hi; omega) (fun i hi => by have := hvb i hi; omega)]
   have e1 : gz (fun i => 2 ^ (15 - (vs.getD i 0).toNat)) A.length = gz (fun i => 2 ^ (15 - most) * 2 ^ (most - ct A most (2 * A.length - 2) i)) A.length := by
    have q1 := yy (fun x => 2 ^ (15 - x.toNat)) vs
    have q2 := yy (fun x => 2 ^ (15 - x.toNat)) (cs A most)
    rw [hvl] at q1
    rw [mr] at q2
    rw [q1, EO _ hvs.perm, ← q2]
    refine mi _ (fun i hi => ?_)
    rw [DO hi, ← Nat.pow_add]
    have := hc i hi
    congr 1
    omega
   have e2 : ∀ (c : Nat) (f : Nat → Nat) n, gz (fun i => c * f i) n = c * gz f n := by
    intro c f n
    induction n with
    | zero => rfl
    | succ n ih => simp only [gz]; rw [ih, Nat.mul_add]
   rw [e1, e2, hw, ← Nat.pow_add, show 15 - most + most = 15 by omega]
   rfl
end Go.aJ
namespace Go.aJ
open Go.ab
def eg (fr : List Int) (k : Nat) : List Pk := ((List.range k).filter (fun i => decide (0 < fr.getD i 0))).map (fun i : Nat => (fr.getD i 0, [(i : Int)]))
theorem zh {fr : List Int} {k : Nat} (h : 0 < fr.getD k 0) : eg fr (k + 1) = eg fr k ++ [(fr.getD k 0, [(k : Int)])] := by
 unfold eg
 rw [List.range_succ, List.filter_append, List.map_append, List.filter_cons, if_pos (by simpa using h)]
 rfl
theorem BW {fr : List Int} {k : Nat} (h : ¬ 0 < fr.getD k 0) : eg fr (k + 1) = eg fr k := by
 unfold eg
 rw [List.range_succ, List.filter_append, List.map_append, List.filter_cons, if_neg (by simpa using h)]
 simp
theorem kZ (fr : List Int) (k : Nat) : (eg fr k).length ≤ k := by
 unfold eg
 rw [List.length_map]
 have := List.length_filter_le (fun i => decide (0 < fr.getD i 0)) (List.range k)
 simpa using this
theorem jq {fr : List Int} {k : Nat} {x : Pk} : x ∈ eg fr k ↔ ∃ i : Nat, i < k ∧ 0 < fr.getD i 0 ∧ x = (fr.getD i 0, [(i : Int)]) := by
 unfold eg
 simp only [List.mem_map, List.mem_filter, List.mem_range, decide_eq_true_eq]
 constructor
 ·rintro ⟨i, ⟨h1, h2⟩, rfl⟩; exact ⟨i, h1, h2, rfl⟩
 ·rintro ⟨i, h1, h2, rfl⟩; exact ⟨i, ⟨h1, h2⟩, rfl⟩
theorem Ck (fr : List Int) (k : Nat) : (eg fr k).Nodup := by
 unfold eg
 have h : ((List.range k).filter (fun i => decide (0 < fr.getD i 0))).Nodup := List.Pairwise.filter _ List.nodup_range
 refine List.pairwise_map.2 (List.Pairwise.imp ?_ h)
 intro a b hab hh
 have : [(a : Int)] = [(b : Int)] := congrArg Prod.snd hh
 have h3 : (a : Int) = (b : Int) := (List.cons.inj this).1
 exact hab (by omega)
theorem oE {l l' : List Pk} (h : SS l l') : l'.Perm l := by
 refine List.perm_iff_count.2 (fun a => ?_)
 have h1 := h.DW a.1
 have e : ∀ l : List Pk, l.count a = (l.filter (fun x => decide (x.1 = a.1))).count a := fun l => (List.count_filter (by simp)).symm
 rw [e l', e l, h1]
theorem FY {fr : List Int} {k : Nat} {A : List Pk} (h : SS (eg fr k) A) : Lf A ∧ (∀ i, i < A.length → 0 ≤ sm A i ∧ sm A i < k ∧ (A.getD i (0, [])) = (fr.getD (sm A i).toNat 0, [sm A i]) ∧ 0 < fr.getD (sm A i).toNat 0) ∧ A.length = (eg fr k).length := by
 have hp := oE h
 have hnd : A.Nodup := hp.nodup_iff.2 (Ck fr k)
 have hget : ∀ i (hi : i < A.length), A.getD i (0, []) = A[i] := fun i hi => by simp [hi]
 have hmem : ∀ i, i < A.length → ∃ j : Nat, j < k ∧ 0 < fr.getD j 0 ∧ A.getD i (0, []) = (fr.getD j 0, [(j : Int)]) := fun i hi => by
  rw [hget i hi]
  exact jq.1 (hp.mem_iff.1 (List.getElem_mem hi))
 have hall : ∀ i, i < A.length → 0 ≤ sm A i ∧ sm A i < k ∧ (A.getD i (0, [])) = (fr.getD (sm A i).toNat 0, [sm A i]) ∧ 0 < fr.getD (sm A i).toNat 0 := fun i hi => by
  obtain ⟨j, j1, j2, j3⟩ := hmem i hi
  have e : sm A i = (j : Int) := by unfold sm; rw [j3]; rfl
  rw [e]
  exact ⟨by omega, by omega, by rw [j3, Int.toNat_natCast], by rw [Int.toNat_natCast]; exact j2⟩
 refine ⟨⟨h.uK, fun i hi => by rw [(hall i hi).2.2.1], fun i j hi hj he => ?_, fun x hx => ?_⟩, hall, hp.length_eq⟩
 ·have h1 := (hall i hi).2.2.1
  have h2 := (hall j hj).2.2.1
  rw [hget i hi] at h1
  rw [hget j hj, ← he] at h2
  exact (List.getElem_inj hnd).1 (h1.trans h2.symm)
 ·obtain ⟨j, j1, j2, rfl⟩ := jq.1 (hp.mem_iff.1 hx)
  exact j2
def cO (L : Nat) (X : List Int) : List Int := (List.range L).map (fun k : Nat => (X.count (k : Int) : Int))
theorem qn (L : Nat) (X : List Int) : (cO L X).length = L := by simp [cO]
theorem ID (L : Nat) : cO L [] = List.replicate L 0 := by
 refine List.ext_getElem (by simp [cO]) (fun i h1 h2 => by simp [cO])
theorem s7 {L : Nat} {X : List Int} {x : Int} (h0 : 0 ≤ x) (h1 : x < L) : (cO L X).getD x.toNat 0 = (X.count x : Int) := by
 have : x.toNat < L := by omega
 simp [cO, this, Int.max_eq_left h0]
theorem G8 {L : Nat} {X : List Int} {x : Int} (h0 : 0 ≤ x) (h1 : x < L) : (cO L X).set x.toNat ((cO L X).getD x.toNat 0 + 1) = cO L (X ++ [x]) := by
 rw [s7 h0 h1]
 refine List.ext_getElem (by simp [cO]) (fun i h2 h3 => ?_)
 rw [qn] at h3
 rw [List.getElem_set]
 simp only [cO, List.getElem_map, List.getElem_range, List.count_append, List.count_singleton]
 by_cases e : x.toNat = i
 ·have e2 : x = (i : Int) := by omega
  rw [if_pos e, e2]
  simp
 ·have e2 : ¬ x = (i : Int) := fun hh => e (by omega)
  rw [if_neg e]
  simp [e2]
theorem Fz {L : Nat} {X : List Int} (i : Nat) : 0 ≤ (cO L X).getD i 0 ∧ (cO L X).getD i 0 ≤ X.length := by
 rcases Nat.lt_or_ge i L with h | h
 ·have := s7 (L := L) (X := X) (x := (i : Int)) (by omega) (by omega)
  rw [Int.toNat_natCast] at this
  rw [this]
  have := List.count_le_length (a := (i : Int)) (l := X)
  omega
 ·have : (cO L X).getD i 0 = 0 := by simp [cO, show ¬ i < L by omega]
  rw [this]
  omega
theorem tT {A : List Pk} (h : Lf A) : ∀ j, ∀ e ∈ lv A j, ∀ s ∈ e.2, ∃ i, i < A.length ∧ s = sm A i
 | 0, e, he, s, hs => by simp [lv] at he
 | j + 1, e, he, s, hs => by
  have hprd : ∀ (l : List Pk), (∀ e ∈ l, ∀ s ∈ e.2, ∃ i, i < A.length ∧ s = sm A i) → ∀ e ∈ fq l, ∀ s ∈ e.2, ∃ i, i < A.length ∧ s = sm A i := by
   intro l
   induction l using fq.induct with
   | case1 a b l ih =>
    intro hl e he s hs
    simp only [fq, List.mem_cons] at he
    rcases he with rfl | he
    ·rcases List.mem_append.1 hs with hs | hs
     ·exact hl a (by simp) s hs
     ·exact hl b (by simp) s hs
    ·exact ih (fun y hy => hl y (by simp [hy])) e he s hs
   | case2 l hl2 =>
    intro hl e he s hs
    rw [fq] at he
    ·simp at he
    ·exact hl2
  rcases oh _ A _ rfl he with h1 | h1
  ·obtain ⟨k, hk, rfl⟩ := List.getElem_of_mem h1
   have h2 := h.one k hk
   have e1 : A.getD k (0, []) = A[k] := by simp [hk]
   rw [e1] at h2
   rw [h2] at hs
   exact ⟨k, hk, by simpa using hs⟩
  ·exact hprd _ (tT h j) e h1 s hs
theorem Gp {A : List Pk} (hA : ∀ x ∈ A, 0 ≤ x.1 ∧ x.1 ≤ 1048576 ∧ x.2.length = 1) : ∀ j, ∀ x ∈ lv A (j + 1), 0 ≤ x.1 ∧ x.1 ≤ 1048576 * 2 ^ j ∧ x.2.length ≤ 2 ^ j
 | j, x, hx => by
  have hprd : ∀ (M : Int) (N : Nat) (l : List Pk), (∀ e ∈ l, 0 ≤ e.1 ∧ e.1 ≤ M ∧ e.2.length ≤ N) → ∀ e ∈ fq l, 0 ≤ e.1 ∧ e.1 ≤ 2 * M ∧ e.2.length ≤ 2 * N := by
   intro M N l
   induction l using fq.induct with
   | case1 a b l ih =>
    intro hl e he
    simp only [fq, List.mem_cons] at he
    rcases he with rfl | he
    ·have h1 := hl a (by simp)
     have h2 := hl b (by simp)
     refine ⟨?_, ?_, ?_⟩
     ·show 0 ≤ a.1 + b.1; omega
     ·show a.1 + b.1 ≤ _; omega
     ·show (a.2 ++ b.2).length ≤ _; rw [List.length_append]; omega
    ·exact ih (fun y hy => hl y (by simp [hy])) e he
   | case2 l hl2 =>
    intro hl e he
    rw [fq] at he
    ·simp at he
    ·exact hl2
  have hp : ∀ j : Nat, (1 : Int) ≤ 2 ^ j ∧ 1 ≤ 2 ^ j := fun j => by
   have h1 : (1 : Nat) ≤ 2 ^ j := Nat.one_le_two_pow
   have h2 : ((2 : Int) ^ j) = ((2 ^ j : Nat) : Int) := by simp
   exact ⟨by rw [h2]; omega, h1⟩
  have hleaf : ∀ j, ∀ x ∈ A, 0 ≤ x.1 ∧ x.1 ≤ 1048576 * 2 ^ j ∧ x.2.length ≤ 2 ^ j := fun j x hx => by
   have h1 := hA x hx
   have h2 := hp j
   refine ⟨h1.1, ?_, by omega⟩
   have h3 : (1048576 : Int) * 1 ≤ 1048576 * 2 ^ j := Int.mul_le_mul_of_nonneg_left h2.1 (by decide)
   omega
  rcases oh _ A _ rfl hx with h1 | h1
  ·exact hleaf j x h1
  ·cases j with
   | zero => rw [lv] at h1; simp [fq] at h1
   | succ j =>
    have := hprd (1048576 * 2 ^ j) (2 ^ j) _ (fun e he => Gp hA j e he) x h1
    rw [Int.pow_succ, Nat.pow_succ]
    refine ⟨this.1, ?_, by omega⟩
    have e : (1048576 : Int) * (2 ^ j * 2) = 2 * (1048576 * 2 ^ j) := by rw [Int.mul_comm (2 ^ j) 2, ← Int.mul_assoc, Int.mul_comm 1048576 2, Int.mul_assoc]
    omega
theorem xQ (A : List Pk) : ∀ j, (lv A j).length ≤ 2 * A.length
 | 0 => by simp [lv]
 | j + 1 => by rw [n7]; have := xQ A j; omega
theorem Kj {A : List Pk} : lv A 1 = A := by rw [lv, lv, fq]; exact lQ A; intro a b l h; cases h
theorem zA {l : List Pk} {k : Nat} (h : k < l.length) : sy l k ++ (l.getD k (0, [])).2 = sy l (k + 1) := by
 unfold sy
 rw [List.take_add_one, List.getElem?_eq_getElem h, List.flatMap_append]
 simp [h]
theorem oc {l : List Pk} {N : Nat} (h : ∀ x ∈ l, x.2.length ≤ N) : ∀ k, (sy l k).length ≤ k * N
 | 0 => by simp [sy]
 | k + 1 => by
  have ih := oc h k
  rcases Nat.lt_or_ge k l.length with hk | hk
  ·rw [← zA hk, List.length_append]
   have e1 : l.getD k (0, []) = l[k] := by simp [hk]
   have := h l[k] (List.getElem_mem hk)
   rw [e1, Nat.add_mul]
   omega
  ·have e : sy l (k + 1) = sy l k := by unfold sy; rw [List.take_of_length_le (by omega), List.take_of_length_le hk]
   rw [e, Nat.add_mul]
   omega
theorem HI {A : List Pk} {most k : Nat} (h : k < A.length) : (cs A most).take k ++ [(ct A most (2 * A.length - 2) k : Int)] = (cs A most).take (k + 1) := by
 rw [List.take_add_one, List.getElem?_eq_getElem (by rw [mr]; exact h)]
 simp [cs]
theorem tf {s v w : Nat → Int} {base : List Int} : ∀ k, (∀ i, i < k → v i = w i) → gI s v base k = gI s w base k
 | 0, _ => rfl
 | k + 1, h => by rw [gI, gI, tf k (fun i hi => h i (by omega)), h k (by omega)]
theorem HZ (A : List Pk) (most : Nat) : Ln A most ((cs A most).mergeSort fun x y => decide (x ≤ y)).reverse := by
 refine ⟨(List.reverse_perm _).trans (List.mergeSort_perm _ _), ?_⟩
 rw [List.pairwise_reverse]
 refine List.Pairwise.imp ?_ (List.pairwise_mergeSort (le := fun x y : Int => decide (x ≤ y)) (fun a b c h1 h2 => by simp at *; omega) (fun a b => by simp; omega) _)
 intro a b h
 simpa using h
theorem JS {A : List Pk} (h : Lf A) {most L : Nat} (hs : ∀ i, i < A.length → 0 ≤ sm A i ∧ sm A i < L) : gI (sm A) (fun i => ((cs A most).mergeSort fun x y => decide (x ≤ y)).getD (A.length - 1 - i) 0) (cO L (sy (lv A most) (2 * A.length - 2))) A.length = out A ((cs A most).mergeSort fun x y => decide (x ≤ y)).reverse L := by
 have hsl : ((cs A most).mergeSort fun x y => decide (x ≤ y)).length = A.length := by rw [List.length_mergeSort, mr]
 unfold out
 rw [tf (w := fun i => (((cs A most).mergeSort fun x y => decide (x ≤ y)).reverse).getD i 0) A.length (fun i hi => by
  rw [List.getD_eq_getElem?_getD, List.getD_eq_getElem?_getD, List.getElem?_reverse (by rw [hsl]; exact hi), hsl])]
 refine BU (by rw [qn, List.length_replicate]) (fun i j hi hj he => h.inj i j hi hj (by have := (hs i hi).1; have := (hs j hj).1; omega)) (fun i hi => by rw [qn]; have := hs i hi; omega) (fun x hx => ?_)
 rw [gm]
 rcases Nat.lt_or_ge x L with hxL | hxL
 ·have := s7 (L := L) (X := sy (lv A most) (2 * A.length - 2)) (x := (x : Int)) (by omega) (by omega)
  rw [Int.toNat_natCast] at this
  rw [this]
  have : (sy (lv A most) (2 * A.length - 2)).count (x : Int) = 0 := by
   rw [List.count_eq_zero]
   intro hm
   obtain ⟨e, he, hse⟩ := List.mem_flatMap.1 hm
   obtain ⟨i, hi, hse2⟩ := tT h most e (List.mem_of_mem_take he) _ hse
   exact hx i hi (by rw [← hse2]; omega)
  rw [this]; rfl
 ·simp [cO, show ¬ x < L by omega]
structure GoodL (fr : List Int) (most : Nat) (o : List Int) : Prop where
 len : o.length = fr.length
 code : aO o = 0
 pos : ∀ i, i < fr.length → 0 < fr.getD i 0 → 1 ≤ o.getD i 0 ∧ o.getD i 0 ≤ most
 zero : ∀ i, i < fr.length → ¬ 0 < fr.getD i 0 → o.getD i 0 = 0
 one : (eg fr fr.length).length = 1 → ∀ i, o.getD i 0 ≤ 1
 down : ∀ i k, i < fr.length → k < fr.length → fr.getD k 0 < fr.getD i 0 → 0 < fr.getD k 0 → o.getD i 0 ≤ o.getD k 0
theorem K1 {fr : List Int} {A : List Pk} (h : SS (eg fr fr.length) A) {most : Nat} (hm : 1 ≤ most) (hm2 : most ≤ 15) (hL : fr.length ≤ 320) (h2 : 2 ≤ A.length) (hn : A.length ≤ 2 ^ most) : GoodL fr most (out A ((cs A most).mergeSort fun x y => decide (x ≤ y)).reverse fr.length) := by
 obtain ⟨hLf, hall, hlen⟩ := FY h
 have hg := M0 hLf hm hm2 hn h2 hL (fun i hi => ⟨(hall i hi).1, (hall i hi).2.1⟩) (HZ A most)
 have hof : ∀ x, x < fr.length → 0 < fr.getD x 0 → ∃ i, i < A.length ∧ sm A i = (x : Int) := fun x hx hp => by
  have hm3 : (fr.getD x 0, [(x : Int)]) ∈ A := (oE h).mem_iff.2 (jq.2 ⟨x, hx, hp, rfl⟩)
  obtain ⟨i, hi, he⟩ := List.getElem_of_mem hm3
  refine ⟨i, hi, ?_⟩
  have e1 : A.getD i (0, []) = A[i] := by simp [hi]
  unfold sm
  rw [e1, he]; rfl
 refine ⟨hg.len, hg.code, fun x hx hp => ?_, fun x hx hp => ?_, fun h1 => by omega, fun x y hx hy hlt hpos => ?_⟩
 ·obtain ⟨i, hi, e⟩ := hof x hx hp
  have := hg.leaf i hi
  rw [e, Int.toNat_natCast] at this
  exact this
 ·refine hg.rest x (fun i hi he => hp ?_)
  have := (hall i hi).2.2.2
  rw [he] at this
  exact this
 ·obtain ⟨i, hi, ei⟩ := hof x hx (by omega)
  obtain ⟨k, hk, ek⟩ := hof y hy hpos
  have hki : k ≤ i := by
   rcases Nat.lt_or_ge i k with hik | hik
   ·exfalso
    have hs := List.pairwise_iff_getElem.1 h.uK i k hi hk hik
    have e1 : A.getD i (0, []) = A[i] := by simp [hi]
    have e2 : A.getD k (0, []) = A[k] := by simp [hk]
    rw [← e1, ← e2, (hall i hi).2.2.1, (hall k hk).2.2.1, ei, ek] at hs
    simp only [Int.toNat_natCast] at hs
    omega
   ·exact hik
  have := hg.down k i hki hi
  rw [ei, ek, Int.toNat_natCast, Int.toNat_natCast] at this
  exact this
theorem vf {ls : List Int} (hl : ls.length ≤ 320) (hv : ∀ x ∈ ls, 0 ≤ x ∧ x ≤ 15) (hf : gr ls ls.length ≤ 32768) (hp : (cG ls).length = 0 ∨ ((cG ls).length = 1 ∧ (bx ls).getD 1 0 = 1)) : aO ls = 0 := by
 have h0 := qu hv ls.length (Nat.le_refl _)
 rw [List.take_length] at h0
 have hC := jc hl
 have hnn : ∀ n, n ≤ 15 → 0 ≤ left (bx ls) (15 - n) := by
  intro n
  induction n with
  | zero => intro _; rw [Nat.sub_zero]; omega
  | succ n ih =>
   intro hn
   have h1 := ih (by omega)
   rw [show 15 - n = (15 - (n + 1)) + 1 by omega] at h1
   simp only [left] at h1
   have := (hC (15 - (n + 1) + 1)).1
   omega
 rw [rM (by omega) hv, nO (fun n _ h2 => by have := hnn (15 - n) (by omega); rw [show 15 - (15 - n) = n by omega] at this; exact this)]
 rcases hp with h | ⟨h3, h4⟩
 ·rw [h]; simp
 ·rw [h3, h4]; simp
theorem yW {L s : Nat} (h : s < L) {q : Nat → Bool} (hq : ∀ i, i < L → (q i = true ↔ i = s)) : ((List.range L).filter q).length = 1 := by
 have e : (List.range L).filter q = (List.range L).filter (fun i => i == s) := by
  refine List.filter_congr (fun i hi => ?_)
  have := hq i (List.mem_range.1 hi)
  by_cases e : i = s
  ·rw [this.2 e]; simp [e]
  ·have : q i = false := by
    cases hqi : q i with
    | false => rfl
    | true => exact absurd (this.1 hqi) e
   rw [this]; simp [e]
 have h2 : (List.range L).count s = 1 := by
  rw [List.nodup_range.count, if_pos (List.mem_range.2 h)]
 rw [e, ← List.count_eq_length_filter]
 exact h2
theorem KM {fr : List Int} {most : Nat} (hL : fr.length ≤ 320) (h0 : (eg fr fr.length).length = 0) : GoodL fr most (List.replicate fr.length 0) := by
 have hno : ∀ i, i < fr.length → ¬ 0 < fr.getD i 0 := fun i hi hp => by
  have : (fr.getD i 0, [(i : Int)]) ∈ eg fr fr.length := jq.2 ⟨i, hi, hp, rfl⟩
  have := List.length_pos_of_mem this
  omega
 have hfk : ∀ k, gr (List.replicate fr.length 0) k = 0 := by
  intro k
  induction k with
  | zero => rfl
  | succ k ih => simp only [gr]; rw [ih, gm, if_neg (by omega)]; rfl
 refine ⟨by simp, vf (by simpa using hL) (fun x hx => by rw [List.eq_of_mem_replicate hx]; omega) (by rw [hfk]; omega) (.inl ?_), fun i hi hp => absurd hp (hno i hi), fun i _ _ => gm _ _, fun h1 => by omega, fun i k hi hk h1 h2 => absurd h2 (hno k hk)⟩
 unfold cG
 rw [List.length_map, List.length_eq_zero_iff, List.filter_eq_nil_iff]
 intro i _
 rw [gm]; simp
theorem Gg {fr : List Int} {most : Nat} (hm : 1 ≤ most) (hL : fr.length ≤ 320) {s : Nat} {w : Int} (h1 : eg fr fr.length = [(w, [(s : Int)])]) : s < fr.length ∧ GoodL fr most ((List.replicate fr.length 0).set s 1) := by
 obtain ⟨i, hi, hp, he⟩ := jq.1 (show (w, [(s : Int)]) ∈ eg fr fr.length by rw [h1]; simp)
 have hsi : s = i := by have h5 : (s : Int) = (i : Int) := (List.cons.inj (congrArg Prod.snd he)).1; omega
 subst hsi
 have honly : ∀ i, i < fr.length → 0 < fr.getD i 0 → i = s := fun i hi hp => by
  have : (fr.getD i 0, [(i : Int)]) ∈ eg fr fr.length := jq.2 ⟨i, hi, hp, rfl⟩
  rw [h1, List.mem_singleton] at this
  have h5 : (i : Int) = (s : Int) := (List.cons.inj (congrArg Prod.snd this)).1
  omega
 have hs : s < (List.replicate fr.length (0 : Int)).length := by simpa using hi
 have hself : ((List.replicate fr.length (0 : Int)).set s 1).getD s 0 = 1 := by rw [List.getD_eq_getElem?_getD, List.getElem?_set_self hs]; rfl
 have hne : ∀ x, x ≠ s → ((List.replicate fr.length (0 : Int)).set s 1).getD x 0 = 0 := fun x hx => by rw [List.getD_eq_getElem?_getD, List.getElem?_set_ne (Ne.symm hx), ← List.getD_eq_getElem?_getD, gm]
 have hlen : ((List.replicate fr.length (0 : Int)).set s 1).length = fr.length := by simp
 have hv : ∀ x ∈ (List.replicate fr.length (0 : Int)).set s 1, 0 ≤ x ∧ x ≤ 15 := fun x hx => by
  rcases List.mem_or_eq_of_mem_set hx with h | h
  ·rw [List.eq_of_mem_replicate h]; omega
  ·rw [h]; omega
 have hfk : ∀ k, gr (List.replicate fr.length 0) k = 0 := by
  intro k
  induction k with
  | zero => rfl
  | succ k ih => simp only [gr]; rw [ih, gm, if_neg (by omega)]; rfl
 have hiff : ∀ i, ((List.replicate fr.length (0 : Int)).set s 1).getD i 0 = (if i = s then 1 else 0) := fun i => by
  split
  ·rename_i e; rw [e, hself]
  ·rename_i e; exact hne i e
 refine ⟨hi, hlen, vf (by omega) hv ?_ (.inr ⟨?_, ?_⟩), fun x hx hp2 => ?_, fun x hx hp2 => hne x (fun e => hp2 (by rw [e]; exact hp)), fun _ x => ?_, fun x y hx hy hlt hpos => ?_⟩
 ·rw [hlen, sE hs (gm _ _) (by omega), hfk]
  split <;> decide
 ·unfold cG
  rw [List.length_map, hlen]
  refine yW hi (fun i _ => ?_)
  rw [hiff]
  by_cases e : i = s <;> simp [e]
 ·rw [jT (by omega)]
  unfold da
  rw [if_neg (by omega)]
  unfold cls
  rw [List.length_map, hlen, yW hi (fun i _ => by rw [hiff]; by_cases e : i = s <;> simp [e])]
  rfl
 ·rw [honly x hx hp2, hself]; omega
 ·rw [hiff]; split <;> omega
 ·have e1 := honly y hy hpos
  have e2 := honly x hx (by omega)
  rw [e1, e2]; omega
end Go.aJ
namespace Go.aJ
open Go.ab
def mF (x : Pk) : List Pk → List Pk
 | [] => [x]
 | y :: ys => if x.1 ≤ y.1 then x :: y :: ys else y :: mF x ys
def na : List Pk → List Pk
 | [] => []
 | x :: xs => mF x (na xs)
theorem wU {x z : Pk} : ∀ {l : List Pk}, z ∈ mF x l → z = x ∨ z ∈ l
 | [], h => .inl (by simpa [mF] using h)
 | y :: ys, h => by
  unfold mF at h
  split at h
  ·rcases List.mem_cons.1 h with h | h
   ·exact .inl h
   ·exact .inr h
  ·rcases List.mem_cons.1 h with h | h
   ·exact .inr (List.mem_cons.2 (.inl h))
   ·rcases wU h with h | h
    ·exact .inl h
    ·exact .inr (List.mem_cons.2 (.inr h))
theorem xb {x : Pk} : ∀ {l : List Pk}, lg l → lg (mF x l)
 | [], _ => by simp [mF]
 | y :: ys, h => by
  have h2 := List.pairwise_cons.1 h
  unfold mF
  split
  ·rename_i hc
   refine List.pairwise_cons.2 ⟨fun z hz => ?_, h⟩
   rcases List.mem_cons.1 hz with rfl | hz
   ·exact hc
   ·have := h2.1 z hz; omega
  ·rename_i hc
   refine List.pairwise_cons.2 ⟨fun z hz => ?_, xb h2.2⟩
   rcases wU hz with rfl | hz
   ·omega
   ·exact h2.1 z hz
theorem uO (c : Int) {x : Pk} : ∀ {l : List Pk}, lg l → (mF x l).filter (fun z => decide (z.1 = c)) = (x :: l).filter (fun z => decide (z.1 = c))
 | [], _ => by simp [mF]
 | y :: ys, h => by
  have h2 := List.pairwise_cons.1 h
  unfold mF
  split
  ·rfl
  ·rename_i hc
   rw [List.filter_cons, uO c h2.2]
   by_cases hx : x.1 = c
   ·have hy : ¬ y.1 = c := by omega
    simp [List.filter_cons, hx, hy]
   ·simp [List.filter_cons, hx]
theorem pc : ∀ l : List Pk, lg (na l)
 | [] => by simp [na]
 | x :: xs => xb (pc xs)
theorem qP (c : Int) : ∀ l : List Pk, (na l).filter (fun z => decide (z.1 = c)) = l.filter (fun z => decide (z.1 = c))
 | [] => rfl
 | x :: xs => by
  show (mF x (na xs)).filter _ = _
  rw [uO c (pc xs), List.filter_cons, qP c xs, List.filter_cons]
theorem Ih {l A : List Pk} (h : SS l A) : A = na l := by
 have h1 : SS (na l ++ []) A := ⟨h.uK, fun c => by rw [List.append_nil, qP, h.DW]⟩
 have h2 := h1.eq (pc l) List.Pairwise.nil
 rw [lQ] at h2
 exact h2
def mX (fr : List Int) (most : Nat) : List Int :=
 match eg fr fr.length with
 | [] => List.replicate fr.length 0
 | [x] => (List.replicate fr.length 0).set (x.2.headD 0).toNat 1
 | l => out (na l) ((cs (na l) most).mergeSort fun x y => decide (x ≤ y)).reverse fr.length
structure qY (fr : List Int) (most : Nat) (o : List Int) : Prop extends GoodL fr most o where
 k8 : o = mX fr most
theorem Cj {fr : List Int} {A : List Pk} (h : SS (eg fr fr.length) A) {most : Nat} (hm : 1 ≤ most) (hm2 : most ≤ 15) (hL : fr.length ≤ 320) (h2 : 2 ≤ A.length) (hn : A.length ≤ 2 ^ most) : qY fr most (out A ((cs A most).mergeSort fun x y => decide (x ≤ y)).reverse fr.length) := by
 refine ⟨K1 h hm hm2 hL h2 hn, ?_⟩
 have hlen : A.length = (eg fr fr.length).length := (oE h).length_eq
 have hA := Ih h
 unfold mX
 match hl : eg fr fr.length, hlen with
 | [], hlen => simp at hlen; subst hlen; simp at h2
 | [x], hlen => simp at hlen; omega
 | x :: y :: l, _ => rw [hA, hl]
theorem Cr {fr : List Int} {most : Nat} (hL : fr.length ≤ 320) (h0 : (eg fr fr.length).length = 0) : qY fr most (List.replicate fr.length 0) := by
 refine ⟨KM hL h0, ?_⟩
 unfold mX
 rw [List.length_eq_zero_iff.1 h0]
theorem CJ {fr : List Int} {most : Nat} (hm : 1 ≤ most) (hL : fr.length ≤ 320) {s : Nat} {w : Int} (h1 : eg fr fr.length = [(w, [(s : Int)])]) : s < fr.length ∧ qY fr most ((List.replicate fr.length 0).set s 1) := by
 refine ⟨(Gg hm hL h1).1, (Gg (most := most) hm hL h1).2, ?_⟩
 unfold mX
 rw [h1]
 rfl
end Go.aJ
namespace Go.ad
open Go.af Go.ab Go.aa
def jA (fr : List Int) : Nat → Int
 | 0 => 0
 | k + 1 => if jA fr k < fr.getD k 0 then fr.getD k 0 else jA fr k
theorem wA (fr : List Int) : ∀ k, 0 ≤ jA fr k
 | 0 => Int.le_refl _
 | k + 1 => by have := wA fr k; simp only [jA]; split <;> omega
theorem CG (fr : List Int) : ∀ k i, i < k → fr.getD i 0 ≤ jA fr k
 | 0, i, h => by omega
 | k + 1, i, h => by
  have h1 := CG fr k i
  simp only [jA]
  split
  ·rcases Nat.lt_or_ge i k with h2 | h2
   ·have := h1 h2; omega
   ·obtain rfl : i = k := by omega
    exact Int.le_refl _
  ·rcases Nat.lt_or_ge i k with h2 | h2
   ·exact h1 h2
   ·obtain rfl : i = k := by omega
    omega
theorem wc {fr : List Int} {N : Int} (hN : 0 ≤ N) (h : ∀ i, fr.getD i 0 ≤ N) : ∀ k, jA fr k ≤ N
 | 0 => hN
 | k + 1 => by have := wc hN h k; have := h k; simp only [jA]; split <;> omega
def qe (x : Int) : Nat → Nat → Nat
 | 0, m => m
 | f + 1, m => if 1048576 < x / 2 ^ m then qe x f (m + 1) else m
def dn (fr : List Int) : Nat := qe (jA fr fr.length) 16 0
theorem Iz {x : Int} {k : Nat} (h : ¬ 1048576 < x / 2 ^ k) : ∀ f, qe x f k = k
 | 0 => rfl
 | f + 1 => if_neg h
theorem FE {x : Int} {k : Nat} (hk : k < 16) (h : 1048576 < x / 2 ^ k) : qe x (16 - k) k = qe x (16 - (k + 1)) (k + 1) := by
 rw [show 16 - k = (16 - (k + 1)) + 1 by omega]
 exact if_pos h
theorem zN {x : Int} {k : Nat} (hx : 0 ≤ x ∧ x ≤ 8388608) (hk : 4 ≤ k) : ¬ 1048576 < x / 2 ^ k := by
 have h1 : x / 2 ^ k ≤ x / 2 ^ 4 := by
  rw [show k = 4 + (k - 4) by omega, Int.pow_add, ← Int.ediv_ediv_of_nonneg (by decide)]
  exact Int.ediv_le_self _ (Int.ediv_nonneg (by omega) (by decide))
 have : (2 : Int) ^ 4 = 16 := by decide
 rw [this] at h1
 omega
theorem Cz {x : Int} (hx : 0 ≤ x ∧ x ≤ 8388608) : ∀ f k, f + k = 16 → k ≤ 4 → ¬ 1048576 < x / 2 ^ qe x f k ∧ qe x f k ≤ 4
 | 0, k, h, hk => by omega
 | f + 1, k, h, hk => by
  simp only [qe]
  split
  ·rename_i hc
   have hk2 : k < 4 := by
    rcases Nat.lt_or_ge k 4 with h1 | h1
    ·exact h1
    ·exact absurd hc (zN hx h1)
   exact Cz hx f (k + 1) (by omega) (by omega)
  ·rename_i hc
   exact ⟨hc, hk⟩
def rr (d : Nat) (x : Int) : Int := if 0 < x then (if 1 < x / 2 ^ d then x / 2 ^ d else 1) else x
def jv (fr : List Int) (d : Nat) : Nat → List Int
 | 0 => fr
 | k + 1 => (jv fr d k).set k (rr d (fr.getD k 0))
theorem np (fr : List Int) (d : Nat) : ∀ k, (jv fr d k).length = fr.length
 | 0 => rfl
 | k + 1 => by simp only [jv, List.length_set]; exact np fr d k
theorem pK (fr : List Int) (d : Nat) : ∀ k i, i < fr.length → (jv fr d k).getD i 0 = if i < k then rr d (fr.getD i 0) else fr.getD i 0
 | 0, i, _ => by simp [jv]
 | k + 1, i, h => by
  have ih := pK fr d k i h
  have hl := np fr d k
  simp only [jv]
  by_cases e : i = k
  ·subst e
   rw [List.getD_eq_getElem?_getD, List.getElem?_set_self (by omega), if_pos (by omega)]; rfl
  ·rw [List.getD_eq_getElem?_getD, List.getElem?_set_ne (Ne.symm e), ← List.getD_eq_getElem?_getD, ih]
   by_cases h2 : i < k
   ·rw [if_pos h2, if_pos (by omega)]
   ·rw [if_neg h2, if_neg (by omega)]
theorem Hr {fr : List Int} {d k : Nat} (hk : k < fr.length) (h : ¬ 0 < fr.getD k 0) : jv fr d (k + 1) = jv fr d k := by
 have hg := pK fr d k k hk
 rw [if_neg (by omega)] at hg
 have hl := np fr d k
 simp only [jv]
 rw [show rr d (fr.getD k 0) = fr.getD k 0 from if_neg h, ← hg]
 refine List.ext_getElem? fun i => ?_
 by_cases e : i = k
 ·subst e
  rw [List.getElem?_set_self (by omega), List.getD_eq_getElem?_getD, List.getElem?_eq_getElem (by omega)]; rfl
 ·rw [List.getElem?_set_ne (Ne.symm e)]
theorem D3 {fr : List Int} {d k : Nat} (h : 0 < fr.getD k 0) : jv fr d (k + 1) = (jv fr d k).set k (if 1 < fr.getD k 0 / 2 ^ d then fr.getD k 0 / 2 ^ d else 1) := by
 simp only [jv]; rw [show rr d (fr.getD k 0) = _ from if_pos h]
def lq (fr : List Int) : List Int := jv fr (dn fr) fr.length
theorem pO (fr : List Int) : (lq fr).length = fr.length := np _ _ _
theorem wx (fr : List Int) {i : Nat} (h : i < fr.length) : (lq fr).getD i 0 = rr (dn fr) (fr.getD i 0) := by
 unfold lq; rw [pK _ _ _ _ h, if_pos h]
theorem ph {fr : List Int} {i : Nat} (h : i < fr.length) : 0 < (lq fr).getD i 0 ↔ 0 < fr.getD i 0 := by
 rw [wx _ h]; unfold rr
 split
 ·split <;> omega
 ·rfl
theorem yC {fr : List Int} (hb : ∀ i, 0 ≤ fr.getD i 0 ∧ fr.getD i 0 ≤ 8388608) {i : Nat} (h : i < fr.length) : 0 ≤ (lq fr).getD i 0 ∧ (lq fr).getD i 0 ≤ 1048576 := by
 have hm0 := wA fr fr.length
 have hm1 := wc (N := 8388608) (by decide) (fun i => (hb i).2) fr.length
 have hm2 := CG fr fr.length i h
 have h1 := (Cz (x := jA fr fr.length) ⟨hm0, hm1⟩ 16 0 rfl (by omega)).1
 rw [wx _ h]
 unfold rr dn
 generalize qe (jA fr fr.length) 16 0 = d at *
 have hp : (0 : Int) < 2 ^ d := Int.pow_pos (by decide)
 have h2 : fr.getD i 0 / 2 ^ d ≤ jA fr fr.length / 2 ^ d := Int.ediv_le_ediv hp hm2
 have h3 : 0 ≤ fr.getD i 0 / 2 ^ d := Int.ediv_nonneg (hb i).1 (by omega)
 have h4 := (hb i).1
 split
 ·split <;> omega
 ·omega
def fH (l : List Int) (s : Int) : List Int := l.set s.toNat (l.getD s.toNat 0 + 1)
theorem dP (l : List Int) (s : Int) : (fH l s).length = l.length := by simp [fH]
theorem gJ (l : List Int) (s : Int) {i : Nat} (h : i < l.length) : (fH l s).getD i 0 = l.getD i 0 + (if i = s.toNat then 1 else 0) := by
 unfold fH
 by_cases e : i = s.toNat
 ·subst e; rw [List.getD_eq_getElem?_getD, List.getElem?_set_self h, if_pos rfl]; rfl
 ·rw [List.getD_eq_getElem?_getD, List.getElem?_set_ne (Ne.symm e), ← List.getD_eq_getElem?_getD, if_neg e, Int.add_zero]
def js (t : aZ) : Int := if t.n = 0 then t.lit else eM t.n
def eN : List aZ → List Int → List Int
 | [], a => a
 | t :: l, a => eN l (fH a (js t))
def fK : List aZ → List Int → List Int
 | [], b => b
 | t :: l, b => fK l (if t.n = 0 then b else fH b (ef t.aL))
def iA : List Int := (List.replicate 286 0).set 256 1
def k6 : List Int := List.replicate 30 0
theorem so (t : aZ) : ∀ (l : List aZ) (a : List Int), eN (l ++ [t]) a = fH (eN l a) (js t)
 | [], a => rfl
 | x :: l, a => so t l _
theorem sw (t : aZ) : ∀ (l : List aZ) (b : List Int), fK (l ++ [t]) b = if t.n = 0 then fK l b else fH (fK l b) (ef t.aL)
 | [], b => rfl
 | x :: l, b => sw t l _
theorem oX {l : List aZ} {k : Nat} (h : k < l.length) : l.take (k + 1) = l.take k ++ [l[k]] := by
 rw [List.take_add_one, List.getElem?_eq_getElem h]; rfl
theorem FG {l : List aZ} {k : Nat} (h : k < l.length) (a : List Int) (h0 : (l[k]).n = 0) : fH (eN (l.take k) a) (l[k]).lit = eN (l.take (k + 1)) a := by
 rw [oX h, so, js, if_pos h0]
theorem H0 {l : List aZ} {k : Nat} (h : k < l.length) (a : List Int) (h0 : (l[k]).n ≠ 0) : fH (eN (l.take k) a) (eM (l[k]).n) = eN (l.take (k + 1)) a := by
 rw [oX h, so, js, if_neg h0]
theorem D8 {l : List aZ} {k : Nat} (h : k < l.length) (b : List Int) (h0 : (l[k]).n = 0) : fK (l.take k) b = fK (l.take (k + 1)) b := by
 rw [oX h, sw, if_pos h0]
theorem G4 {l : List aZ} {k : Nat} (h : k < l.length) (b : List Int) (h0 : (l[k]).n ≠ 0) : fH (fK (l.take k) b) (ef (l[k]).aL) = fK (l.take (k + 1)) b := by
 rw [oX h, sw, if_neg h0]
theorem j0 : ∀ (l : List aZ) (a : List Int), (eN l a).length = a.length
 | [], a => rfl
 | t :: l, a => (j0 l _).trans (dP _ _)
theorem lW : ∀ (l : List aZ) (b : List Int), (fK l b).length = b.length
 | [], b => rfl
 | t :: l, b => (lW l _).trans (by split; rfl; exact dP _ _)
theorem zg {N : Int} : ∀ (l : List aZ) (a : List Int), (∀ i, i < a.length → 0 ≤ a.getD i 0 ∧ a.getD i 0 ≤ N) → ∀ i, i < a.length → 0 ≤ (eN l a).getD i 0 ∧ (eN l a).getD i 0 ≤ N + l.length
 | [], a, h, i, hi => by have := h i hi; simp only [eN, List.length_nil]; omega
 | t :: l, a, h, i, hi => by
  have := zg (N := N + 1) l (fH a (js t)) (fun j hj => by
   rw [dP] at hj
   have := h j hj
   rw [gJ _ _ hj]; split <;> omega) i (by rw [dP]; exact hi)
  simp only [eN, List.length_cons]; omega
theorem y9 {N : Int} : ∀ (l : List aZ) (b : List Int), (∀ i, i < b.length → 0 ≤ b.getD i 0 ∧ b.getD i 0 ≤ N) → ∀ i, i < b.length → 0 ≤ (fK l b).getD i 0 ∧ (fK l b).getD i 0 ≤ N + l.length
 | [], b, h, i, hi => by have := h i hi; simp only [fK, List.length_nil]; omega
 | t :: l, b, h, i, hi => by
  have := y9 (N := N + 1) l (if t.n = 0 then b else fH b (ef t.aL)) (fun j hj => by
   split
   ·rename_i e; rw [if_pos e] at hj; have := h j hj; omega
   ·rename_i e; rw [if_neg e, dP] at hj
    have := h j hj
    rw [gJ _ _ hj]; split <;> omega) i (by split; exact hi; rw [dP]; exact hi)
  simp only [fK, List.length_cons]; omega
theorem nZ : ∀ (l : List aZ) (a : List Int) {i : Nat}, i < a.length → a.getD i 0 ≤ (eN l a).getD i 0
 | [], a, i, hi => Int.le_refl _
 | t :: l, a, i, hi => by
  have h1 := nZ l (fH a (js t)) (i := i) (by rw [dP]; exact hi)
  rw [gJ _ _ hi] at h1
  simp only [eN]
  split at h1 <;> omega
theorem vk : ∀ (l : List aZ) (b : List Int) {i : Nat}, i < b.length → b.getD i 0 ≤ (fK l b).getD i 0
 | [], b, i, hi => Int.le_refl _
 | t :: l, b, i, hi => by
  have h1 := vk l (if t.n = 0 then b else fH b (ef t.aL)) (i := i) (by split; exact hi; rw [dP]; exact hi)
  have h2 : b.getD i 0 ≤ (if t.n = 0 then b else fH b (ef t.aL)).getD i 0 := by
   split
   ·exact Int.le_refl _
   ·rw [gJ _ _ hi]; split <;> omega
  simp only [fK]; omega
theorem yh : ∀ (l : List aZ) (a : List Int), (∀ i, i < a.length → 0 ≤ a.getD i 0) → ∀ t ∈ l, (js t).toNat < a.length → 0 < (eN l a).getD (js t).toNat 0
 | x :: l, a, h0, t, ht, hs => by
  simp only [eN]
  rcases List.mem_cons.1 ht with rfl | ht
  ·have h1 := nZ l (fH a (js t)) (i := (js t).toNat) (by rw [dP]; exact hs)
   rw [gJ _ _ hs, if_pos rfl] at h1
   have := h0 _ hs; omega
  ·refine yh l (fH a (js x)) (fun i hi => ?_) t ht (by rw [dP]; exact hs)
   rw [dP] at hi
   rw [gJ _ _ hi]; have := h0 i hi; split <;> omega
theorem wg : ∀ (l : List aZ) (b : List Int), (∀ i, i < b.length → 0 ≤ b.getD i 0) → ∀ t ∈ l, t.n ≠ 0 → (ef t.aL).toNat < b.length → 0 < (fK l b).getD (ef t.aL).toNat 0
 | x :: l, b, h0, t, ht, hn, hs => by
  simp only [fK]
  rcases List.mem_cons.1 ht with rfl | ht
  ·rw [if_neg hn]
   have h1 := vk l (fH b (ef t.aL)) (i := (ef t.aL).toNat) (by rw [dP]; exact hs)
   rw [gJ _ _ hs, if_pos rfl] at h1
   have := h0 _ hs; omega
  ·refine wg l _ (fun i hi => ?_) t ht hn (by split; exact hs; rw [dP]; exact hs)
   split at hi
   ·rename_i e; rw [if_pos e]; exact h0 i hi
   ·rename_i e; rw [if_neg e]; rw [dP] at hi
    rw [gJ _ _ hi]; have := h0 i hi; split <;> omega
def fA (l : List aZ) : List Int := lq (eN l iA)
def fB (l : List aZ) : List Int := lq (fK l k6)
theorem ze (i : Nat) (h : i < 286) : 0 ≤ iA.getD i 0 ∧ iA.getD i 0 ≤ 1 := by
 unfold iA
 by_cases e : i = 256
 ·subst e; rw [List.getD_eq_getElem?_getD, List.getElem?_set_self (by rw [List.length_replicate]; omega)]; decide
 ·rw [List.getD_eq_getElem?_getD, List.getElem?_set_ne (Ne.symm e), ← List.getD_eq_getElem?_getD, aJ.gm]; decide
theorem yA (i : Nat) (h : i < 30) : 0 ≤ k6.getD i 0 ∧ k6.getD i 0 ≤ 1 := by
 unfold k6; rw [aJ.gm]; decide
theorem yN : iA.getD 256 0 = 1 := by
 unfold iA; rw [List.getD_eq_getElem?_getD, List.getElem?_set_self (by rw [List.length_replicate]; omega)]; rfl
theorem gW : iA.length = 286 := by unfold iA; rw [List.length_set, List.length_replicate]
theorem kh : k6.length = 30 := by unfold k6; rw [List.length_replicate]
theorem oK {l : List Int} {i : Nat} (h : l.length ≤ i) : l.getD i 0 = 0 := by simp [List.getD_eq_getElem?_getD, h]
theorem xd {l : List aZ} (hl : l.length ≤ 4194304) (i : Nat) : 0 ≤ (eN l iA).getD i 0 ∧ (eN l iA).getD i 0 ≤ 8388608 := by
 rcases Nat.lt_or_ge i 286 with h | h
 ·have := zg (N := 1) l iA (fun j hj => ze j (by rw [gW] at hj; exact hj)) i (by rw [gW]; exact h); omega
 ·rw [oK (by rw [j0, gW]; exact h)]; omega
theorem wP {l : List aZ} (hl : l.length ≤ 4194304) (i : Nat) : 0 ≤ (fK l k6).getD i 0 ∧ (fK l k6).getD i 0 ≤ 8388608 := by
 rcases Nat.lt_or_ge i 30 with h | h
 ·have := y9 (N := 1) l k6 (fun j hj => yA j (by rw [kh] at hj; exact hj)) i (by rw [kh]; exact h); omega
 ·rw [oK (by rw [lW, kh]; exact h)]; omega
theorem lA (l : List aZ) : (fA l).length = 286 := (pO _).trans ((j0 _ _).trans gW)
theorem nr (l : List aZ) : (fB l).length = 30 := (pO _).trans ((lW _ _).trans kh)
end Go.ad
namespace Go.ad
open Go.af Go.ab Go.aa
def jl : Nat → List Int → List (List Int)
 | 0, Z => [Z]
 | f + 1, Z => if Z.length ≤ 65535 then [Z] else Z.take 65535 :: jl f (Z.drop 65535)
theorem xN : ∀ (f : Nat) (Z : List Int), ∃ X L, jl f Z = X :: L
 | 0, Z => ⟨Z, [], rfl⟩
 | f + 1, Z => by
  unfold jl
  split
  ·exact ⟨_, _, rfl⟩
  ·exact ⟨_, _, rfl⟩
theorem sn {Z : List Int} (h : Z.length ≤ 65535) : ∀ f, jl f Z = [Z]
 | 0 => rfl
 | f + 1 => if_pos h
theorem sK {Z : List Int} (h : 65535 < Z.length) (f : Nat) : fW (jl (f + 1) Z) = fX 0 (Z.take 65535) ++ fW (jl f (Z.drop 65535)) := by
 have h0 : jl (f + 1) Z = Z.take 65535 :: jl f (Z.drop 65535) := if_neg (by omega)
 rw [h0]
 obtain ⟨X, L, e⟩ := xN f (Z.drop 65535)
 rw [e]; rfl
theorem pB : ∀ (f : Nat) (Z : List Int), (jl f Z).flatten = Z
 | 0, Z => by simp [jl]
 | f + 1, Z => by
  unfold jl
  split
  ·simp
  ·rw [List.flatten_cons, pB f, List.take_append_drop]
theorem wv : ∀ (f : Nat) (Z : List Int), Z.length ≤ 65535 * (f + 1) → ∀ X ∈ jl f Z, X.length ≤ 65535
 | 0, Z, h, X, hX => by simp only [jl, List.mem_singleton] at hX; subst hX; omega
 | f + 1, Z, h, X, hX => by
  unfold jl at hX
  split at hX
  ·rw [List.mem_singleton.1 hX]; assumption
  ·rcases List.mem_cons.1 hX with rfl | hX
   ·rw [List.length_take]; omega
   ·exact wv f _ (by rw [List.length_drop]; omega) X hX
theorem HM : ∀ (f : Nat) (Z : List Int), Z.length ≤ 65535 * (f + 1) → (fW (jl f Z)).length ≤ Z.length + 5 * (Z.length / 65535 + 1)
 | 0, Z, h => by show (fX 1 Z).length ≤ _; rw [kN]; omega
 | f + 1, Z, h => by
  rcases Nat.lt_or_ge 65535 Z.length with h1 | h1
  ·have ih := HM f (Z.drop 65535) (by rw [List.length_drop]; omega)
   rw [sK h1, List.length_append, kN, List.length_take]
   rw [List.length_drop] at ih
   omega
  ·rw [sn h1]; show (fX 1 Z).length ≤ _; rw [kN]; omega
theorem wm : ∀ (f : Nat) (Z : List Int), Z.length ≤ 65535 * (f + 1) → (fW (jl f Z)).length = Z.length + 5 * ((Z.length - 1) / 65535 + 1)
 | 0, Z, h => by show (fX 1 Z).length = _; rw [kN]; omega
 | f + 1, Z, h => by
  rcases Nat.lt_or_ge 65535 Z.length with h1 | h1
  ·have ih := wm f (Z.drop 65535) (by rw [List.length_drop]; omega)
   rw [sK h1, List.length_append, kN, List.length_take]
   rw [List.length_drop] at ih
   omega
  ·rw [sn h1]; show (fX 1 Z).length = _; rw [kN]; omega
def jh (B : List Int) : List Int := fW (jl 64 B)
theorem Ju (B : List Int) : [] ++ fW (jl 64 B) = jh B := rfl
theorem Et {O Z B : List Int} {f : Nat} (h : O ++ fW (jl f Z) = jh B) (hZ : Z.length ≤ 65535) : O ++ [1, (Z.length : Int) % 256, (Z.length : Int) / 256, 255 - (Z.length : Int) % 256, 255 - (Z.length : Int) / 256] ++ Z = jh B := by
 rw [← h, sn hZ, List.append_assoc]; rfl
theorem Fx {O Z B : List Int} {f : Nat} (h : O ++ fW (jl (f + 1) Z) = jh B) (hZ : 65535 < Z.length) : O ++ [0, (65535 : Int) % 256, (65535 : Int) / 256, 255 - (65535 : Int) % 256, 255 - (65535 : Int) / 256] ++ Z.take 65535 ++ fW (jl f (Z.drop 65535)) = jh B := by
 rw [← h, sK hZ]
 have : (Z.take 65535).length = 65535 := by rw [List.length_take]; omega
 unfold fX
 rw [this]
 simp only [List.append_assoc]
 rfl
theorem tW {B : List Int} (h : B.length ≤ 4194304) : (jh B).length = B.length + 5 * ((B.length - 1) / 65535 + 1) := wm 64 B (by omega)
theorem HO {B t : List Int} (h : B.length ≤ 4194304) (hB : aY B) (ht : aY t) : gU (jh B ++ t) B.length (B, ((jh B).length : Int), 0) ∧ ∀ mo : Int, 0 ≤ mo → mo < B.length → gU (jh B ++ t) mo ([], 0, 6) := by
 obtain ⟨X, L, e⟩ := xN 64 B
 have h1 := Fp (L := jl 64 B) (by rw [e]; simp) (fun X hX => ⟨wv 64 B (by omega) X hX, fun x hx => hB x (by
  have := pB 64 B
  rw [← this]; exact List.mem_flatten.2 ⟨X, hX, hx⟩)⟩) ht
 rw [pB] at h1
 exact h1
end Go.ad
namespace Go.aJ
open Go.ab
theorem Iu (l : List Pk) : SS l (na l) := ⟨pc l, fun c => qP c l⟩
theorem qF {fr : List Int} {most : Nat} (hm : 1 ≤ most) (hm2 : most ≤ 15) (hL : fr.length ≤ 320) (hn : (eg fr fr.length).length ≤ 2 ^ most) : GoodL fr most (mX fr most) := by
  match hl : eg fr fr.length with
  | [] =>
    have h := Cr (most := most) hL (by rw [hl]; rfl)
    rw [← h.k8]; exact h.toGoodL
  | [x] =>
    obtain ⟨w, s⟩ := x
    obtain ⟨i, h1, h2, h3⟩ := jq.1 (show (w, s) ∈ eg fr fr.length by rw [hl]; simp)
    have hs : s = [(i : Int)] := congrArg Prod.snd h3
    subst hs
    have h := (CJ (most := most) hm hL hl).2
    rw [← h.k8]; exact h.toGoodL
  | x :: y :: l =>
    have hss := Iu (eg fr fr.length)
    have hlen : (na (eg fr fr.length)).length = (eg fr fr.length).length := (oE hss).length_eq
    have h := Cj hss (most := most) hm hm2 hL (by rw [hlen, hl]; simp) (by rw [hlen]; exact hn)
    rw [← h.k8]; exact h.toGoodL
end Go.aJ
namespace Go.ad
open Go.af Go.ab Go.aa
def nB (bs : List Int) (a : Nat) : Nat → Int
  | 0 => 0
  | n + 1 => nB bs a n + bs.getD (a + n) 0 * 2 ^ n
def lJ (bs : List Int) : List Int := (List.range ((bs.length + 7) / 8)).map fun j => nB bs (8 * j) 8
theorem rX (bs : List Int) : (lJ bs).length = (bs.length + 7) / 8 := by simp [lJ]
theorem BM {bs out : List Int} {fr : Nat} (h : Pk bs out fr) (h8 : fr < 8) : out = lJ bs := by
  have hl := h.len
  have hn : (bs.length + 7) / 8 = out.length := by omega
  have hb : ∀ i, dM out i = bs.getD i 0 := fun i => by
    rcases Nat.lt_or_ge i bs.length with h1 | h1
    · exact h.get i h1
    · rw [h.zero i h1, oK h1]
  have hnum : ∀ a n, az out a n = nB bs a n := by
    intro a n
    induction n with
    | zero => rfl
    | succ n ih =>
      show az out a n + dM out (a + n) * 2 ^ n = nB bs a n + bs.getD (a + n) 0 * 2 ^ n
      rw [ih, hb]
  unfold lJ
  rw [hn]
  refine List.ext_getElem (by simp) fun j h1 h2 => ?_
  rw [List.getElem_map, List.getElem_range, ← hnum, sY (h.lH.get j)]
  simp [List.getD_eq_getElem?_getD, h1]
def GF (l : List aZ) : List Int := aQ 1 1 ++ aQ 1 2 ++ (cv bF fu l ++ wb bF 256)
def k7 (l : List aZ) : List Int := lJ (GF l)
def dA (l : List aZ) : List Int := aJ.mX (fA l) 15
def dB (l : List aZ) : List Int := aJ.mX (fB l) 15
def gi : List Int → List Int → List Int
  | [], f => f
  | n :: l, f => gi l (fH f n)
theorem xM (n : Int) : ∀ (l f : List Int), gi (l ++ [n]) f = fH (gi l f) n
  | [], f => rfl
  | x :: l, f => xM n l _
theorem pJ : ∀ (l f : List Int), (gi l f).length = f.length
  | [], f => rfl
  | t :: l, a => (pJ l _).trans (dP _ _)
theorem zB {N : Int} : ∀ (l a : List Int), (∀ i, i < a.length → 0 ≤ a.getD i 0 ∧ a.getD i 0 ≤ N) → ∀ i, i < a.length → 0 ≤ (gi l a).getD i 0 ∧ (gi l a).getD i 0 ≤ N + l.length
  | [], a, h, i, hi => by have := h i hi; simp only [gi, List.length_nil]; omega
  | t :: l, a, h, i, hi => by
    have := zB (N := N + 1) l (fH a t) (fun j hj => by
      rw [dP] at hj
      have := h j hj
      rw [gJ _ _ hj]; split <;> omega) i (by rw [dP]; exact hi)
    simp only [gi, List.length_cons]; omega
theorem vt : ∀ (l a : List Int) {i : Nat}, i < a.length → a.getD i 0 ≤ (gi l a).getD i 0
  | [], a, i, hi => Int.le_refl _
  | t :: l, a, i, hi => by
    have h1 := vt l (fH a t) (i := i) (by rw [dP]; exact hi)
    rw [gJ _ _ hi] at h1
    simp only [gi]
    split at h1 <;> omega
theorem xH : ∀ (l a : List Int), (∀ i, i < a.length → 0 ≤ a.getD i 0) → ∀ t ∈ l, t.toNat < a.length → 0 < (gi l a).getD t.toNat 0
  | x :: l, a, h0, t, ht, hs => by
    simp only [gi]
    rcases List.mem_cons.1 ht with rfl | ht
    · have h1 := vt l (fH a t) (i := t.toNat) (by rw [dP]; exact hs)
      rw [gJ _ _ hs, if_pos rfl] at h1
      have := h0 _ hs; omega
    · refine xH l (fH a x) (fun i hi => ?_) t ht (by rw [dP]; exact hs)
      rw [dP] at hi
      rw [gJ _ _ hi]; have := h0 i hi; split <;> omega
theorem Ch {l f : List Int} {k : Nat} (h : k < l.length) : fH (gi (l.take k) f) l[k] = gi (l.take (k + 1)) f := by
  rw [List.take_add_one, List.getElem?_eq_getElem h]
  exact (xM _ _ _).symm
def bS (l : List aZ) : List Int := dA l ++ dB l
def jN : List Int := List.replicate 19 0
def kX (l : List aZ) : List Int := gi (bS l) jN
def dF (l : List aZ) : List Int := aJ.mX (kX l) 7
def dX (f : List Int) (k : Nat) : List Int := (dv.take k).flatMap fun i => aQ (f.getD i.toNat 0) 3
def fV : List Int := aQ 1 1 ++ aQ 2 2 ++ aQ 29 5 ++ aQ 29 5 ++ aQ 15 4
def pY (l : List aZ) : List Int := fV ++ dX (dF l) 19 ++ ab.bits (dF l) (bS l) ++ (cv (dA l) (dB l) l ++ wb (dA l) 256)
def ky (l : List aZ) : List Int := lJ (pY l)
theorem nI (f : List Int) {k : Nat} (h : k < 19) : dX f k ++ aQ (f.getD (dv.getD k 0).toNat 0) 3 = dX f (k + 1) := by
  unfold dX
  have hl : k < dv.length := h
  rw [List.take_add_one, List.getElem?_eq_getElem hl, List.flatMap_append]
  simp [List.getD_eq_getElem?_getD, hl]
theorem jL (f : List Int) : ∀ k, k ≤ 19 → (dX f k).length = 3 * k
  | 0, _ => rfl
  | k + 1, h => by rw [← nI f (by omega), List.length_append, jL f k (by omega), dH]; omega
theorem pw {f l : List Int} {k : Nat} (h : k < l.length) : ab.bits f (l.take k) ++ wb f l[k] = ab.bits f (l.take (k + 1)) := by
  rw [← Cb, List.take_add_one, List.getElem?_eq_getElem h]; rfl
theorem uJ {l : List aZ} (hl : l.length ≤ 4194304) : aJ.GoodL (fA l) 15 (dA l) :=
  aJ.qF (by omega) (by omega) (by rw [lA]; omega) (by have := aJ.kZ (fA l) (fA l).length; rw [lA] at *; have e : 2 ^ 15 = 32768 := (by decide); omega)
theorem zV {l : List aZ} (hl : l.length ≤ 4194304) : aJ.GoodL (fB l) 15 (dB l) :=
  aJ.qF (by omega) (by omega) (by rw [nr]; omega) (by have := aJ.kZ (fB l) (fB l).length; rw [nr] at *; have e : 2 ^ 15 = 32768 := (by decide); omega)
theorem kn (l : List aZ) : (kX l).length = 19 := (pJ _ _).trans (by unfold jN; rw [List.length_replicate])
theorem wF (l : List aZ) : aJ.GoodL (kX l) 7 (dF l) :=
  aJ.qF (by omega) (by omega) (by rw [kn]; omega) (by have := aJ.kZ (kX l) (kX l).length; rw [kn] at *; have e : 2 ^ 7 = 128 := (by decide); omega)
theorem vN {l : List aZ} (hl : l.length ≤ 4194304) : (dA l).length = 286 := (uJ hl).len.trans (lA l)
theorem xf {l : List aZ} (hl : l.length ≤ 4194304) : (dB l).length = 30 := (zV hl).len.trans (nr l)
theorem wT (l : List aZ) : (dF l).length = 19 := (wF l).len.trans (kn l)
theorem nd {l : List aZ} (hl : l.length ≤ 4194304) : (bS l).length = 316 := by unfold bS; rw [List.length_append, vN hl, xf hl]
theorem Lx {l : List aZ} (hl : l.length ≤ 4194304) : ∀ i, i < (fA l).length → 0 ≤ (fA l).getD i 0 ∧ (fA l).getD i 0 ≤ 1048576 := fun i hi => yC (xd hl) (by rw [← pO]; exact hi)
theorem LA {l : List aZ} (hl : l.length ≤ 4194304) : ∀ i, i < (fB l).length → 0 ≤ (fB l).getD i 0 ∧ (fB l).getD i 0 ≤ 1048576 := fun i hi => yC (wP hl) (by rw [← pO]; exact hi)
theorem zQ : ∀ i, i < jN.length → 0 ≤ jN.getD i 0 ∧ jN.getD i 0 ≤ 0 := fun i _ => by unfold jN; rw [aJ.gm]; decide
theorem zG {l : List aZ} {k : Nat} (hl : l.length ≤ 4194304) (i : Nat) : 0 ≤ (gi ((bS l).take k) jN).getD i 0 ∧ (gi ((bS l).take k) jN).getD i 0 ≤ 316 := by
  rcases Nat.lt_or_ge i jN.length with h | h
  · have := zB (N := 0) ((bS l).take k) jN zQ i h
    rw [List.length_take, nd hl] at this; omega
  · rw [oK (by rw [pJ]; exact h)]; omega
theorem JZ {l : List aZ} (hl : l.length ≤ 4194304) : ∀ i, i < (kX l).length → 0 ≤ (kX l).getD i 0 ∧ (kX l).getD i 0 ≤ 1048576 := fun i hi => by
  have := zG (l := l) (k := 316) hl i
  rw [List.take_of_length_le (by rw [nd hl]; omega)] at this
  unfold kX; omega
theorem o0 {fr o : List Int} {m : Nat} (h : aJ.GoodL fr m o) {s : Int} (h0 : 0 ≤ s) (h1 : s < fr.length) (hp : 0 < fr.getD s.toNat 0) : s < o.length ∧ fT o s = true := by
  have hs : s < o.length := by rw [h.len]; exact h1
  have h2 := (h.pos s.toNat (by omega) hp).1
  rcases BJ (cM h.code).1 h0 with ⟨a, _⟩ | ⟨_, _, b⟩ | ⟨_, a, _⟩
  · omega
  · exact ⟨hs, b⟩
  · omega
theorem G5 {t : aZ} (ht : iu t) : 0 ≤ js t ∧ js t < 286 := by
  unfold js
  rcases ht.pT with ⟨h1, h2, h3, h4⟩ | ⟨h0, h1, h2, h3, h4⟩
  · rw [if_pos h1]; omega
  · rw [if_neg (by omega)]; have := rJ ⟨h1, h2⟩; omega
theorem FT {l : List aZ} (hok : ∀ t ∈ l, iu t) (hl : l.length ≤ 4194304) : Fits (dA l) (dB l) l := by
  have hA : ∀ t ∈ l, js t < (dA l).length ∧ fT (dA l) (js t) = true := fun t ht => by
    have hs := G5 (hok t ht)
    refine o0 (uJ hl) hs.1 (by rw [lA]; exact hs.2) ?_
    have hp := yh l iA (fun i hi => (ze i (by rw [gW] at hi; exact hi)).1) t ht (by rw [gW]; omega)
    exact (ph (by rw [j0, gW]; omega)).2 hp
  refine ⟨hok, fun t ht h0 => ?_, fun t ht h0 => ?_, ?_⟩
  · have := hA t ht; unfold js at this; rw [if_pos h0] at this; exact this
  · have h1 := hA t ht
    unfold js at h1; rw [if_neg h0] at h1
    have hd : 0 ≤ ef t.aL ∧ ef t.aL < 30 := by
      rcases (hok t ht).pT with ⟨h1, h2, h3, h4⟩ | ⟨h0, h1, h2, h3, h4⟩
      · exact absurd h1 h0
      · have := rm ⟨h3, h4⟩; omega
    have hp := wg l k6 (fun i hi => (yA i (by rw [kh] at hi; exact hi)).1) t ht h0 (by rw [kh]; omega)
    have h2 := o0 (zV hl) hd.1 (by rw [nr]; exact hd.2) ((ph (by rw [lW, kh]; omega)).2 hp)
    exact ⟨h1.1, h1.2, h2⟩
  · refine o0 (uJ hl) (by decide) (by rw [lA]; decide) ?_
    have h1 := nZ l iA (i := 256) (by rw [gW]; omega)
    rw [yN] at h1
    exact (ph (by rw [j0, gW]; omega)).2 (by show 0 < (eN l iA).getD 256 0; omega)
theorem nv : fu.length = 32 := by unfold fu; rw [List.length_replicate]
theorem FV {l : List aZ} (hok : ∀ t ∈ l, iu t) : Fits bF fu l := by
  refine ⟨hok, fun t ht h0 => ?_, fun t ht h0 => ?_, ?_⟩
  · rcases (hok t ht).pT with ⟨h1, h2, h3, h4⟩ | ⟨_, h1, _⟩
    · rw [gL]; exact ⟨by omega, (As ⟨h3, by omega⟩).2.2⟩
    · omega
  · rcases (hok t ht).pT with ⟨h1, _⟩ | ⟨_, h1, h2, h3, h4⟩
    · exact absurd h1 h0
    · have a := rJ ⟨h1, h2⟩
      have b := rm ⟨h3, h4⟩
      rw [gL, nv]
      exact ⟨by omega, (As ⟨by omega, by omega⟩).2.2, by omega, (LI ⟨by omega, by omega⟩).2.2⟩
  · rw [gL]; exact ⟨by decide, (As ⟨by decide, by decide⟩).2.2⟩
theorem uf {l : List aZ} (hl : l.length ≤ 4194304) {x : Int} (hx : x ∈ bS l) : 0 ≤ x ∧ x ≤ 15 := by
  rcases List.mem_append.1 hx with h | h
  · exact (cM (uJ hl).code).1.2 x h
  · exact (cM (zV hl).code).1.2 x h
theorem BA {l : List aZ} (hl : l.length ≤ 4194304) {x : Int} (hx : x ∈ bS l) : x < (dF l).length ∧ fT (dF l) x = true := by
  have h := uf hl hx
  refine o0 (wF l) h.1 (by rw [kn]; omega) ?_
  exact xH (bS l) jN (fun i hi => (zQ i hi).1) x hx (by unfold jN; rw [List.length_replicate]; omega)
theorem IS {l : List aZ} (i : Nat) : 0 ≤ (dF l).getD i 0 ∧ (dF l).getD i 0 ≤ 7 := by
  rcases Nat.lt_or_ge i 19 with h | h
  · by_cases hp : 0 < (kX l).getD i 0
    · have := (wF l).pos i (by rw [kn]; exact h) hp; omega
    · have := (wF l).zero i (by rw [kn]; exact h) hp; omega
  · rw [oK (by rw [wT]; exact h)]; decide
end Go.ad
namespace Go.ad
open Go.af Go.ab Go.aa
def tF {α : Type} (a b c : α) : Nat → α
 | 0 => a
 | 1 => b
 | _ => c
def bi (n : Nat → Nat) : Nat → Nat
 | 0 => 0
 | k + 1 => if n (k + 1) < n (bi n k) then k + 1 else bi n k
theorem sW (n : Nat → Nat) : ∀ k, bi n k ≤ k
 | 0 => Nat.le_refl _
 | k + 1 => by have := sW n k; simp only [bi]; split <;> omega
theorem xm (n : Nat → Nat) : ∀ k j, j ≤ k → n (bi n k) ≤ n j
 | 0, j, h => by obtain rfl : j = 0 := (by omega); exact Nat.le_refl _
 | k + 1, j, h => by
  have ih := xm n k
  simp only [bi]
  split
  ·rename_i hc
   rcases Nat.lt_or_ge j (k + 1) with h1 | h1
   ·have := ih j (by omega); omega
   ·obtain rfl : j = k + 1 := by omega
    exact Nat.le_refl _
  ·rename_i hc
   rcases Nat.lt_or_ge j (k + 1) with h1 | h1
   ·exact ih j (by omega)
   ·obtain rfl : j = k + 1 := by omega
    omega
theorem KC {n : Nat → Nat} {k : Nat} (h : n (k + 1) < n (bi n k)) : bi n (k + 1) = k + 1 := if_pos h
theorem Lj {n : Nat → Nat} {k : Nat} (h : ¬ n (k + 1) < n (bi n k)) : bi n (k + 1) = bi n k := if_neg h
theorem FR {j : Nat} (h : j ≤ 2) : j = 0 ∨ j = 1 ∨ j = 2 := by omega
def sN (B : List Int) : Nat → Nat := tF (jh B).length (k7 (du B)).length (ky (du B)).length
def eB (B : List Int) : List Int := tF (jh B) (k7 (du B)) (ky (du B)) (bi (sN B) 2)
theorem CF (B : List Int) : eB B = jh B ∨ eB B = k7 (du B) ∨ eB B = ky (du B) := by
 unfold eB
 rcases FR (sW (sN B) 2) with h | h | h <;> rw [h]
 ·exact .inl rfl
 ·exact .inr (.inl rfl)
 ·exact .inr (.inr rfl)
theorem Ij (B : List Int) : (eB B).length = sN B (bi (sN B) 2) := by
 unfold eB
 rcases FR (sW (sN B) 2) with h | h | h <;> rw [h] <;> rfl
theorem B7 (B : List Int) : (eB B).length ≤ (jh B).length ∧ (eB B).length ≤ (k7 (du B)).length := by
 rw [Ij]
 exact ⟨xm (sN B) 2 0 (by omega), xm (sN B) 2 1 (by omega)⟩
end Go.ad
namespace Go.ad
open Go.af Go.ab Go.aa
theorem HS {l : List aZ} (hok : ∀ t ∈ l, iu t) (hl : l.length ≤ 4194304) : (k7 l).length ≤ 30000000 := by
 have h1 := jG (cM kU).1 (cM lX).1 (l := l) hok
 have h2 := mB (cM kU).1 256
 unfold k7 GF
 rw [rX]
 simp only [List.length_append, dH, jM]
 omega
theorem Ix {l : List aZ} (hok : ∀ t ∈ l, iu t) (hl : l.length ≤ 4194304) : (ky l).length ≤ 30000000 := by
 have h1 := jG (cM (uJ hl).code).1 (cM (zV hl).code).1 (l := l) hok
 have h2 := mB (cM (uJ hl).code).1 256
 have h3 := nb (cM (wF l).code).1 (bS l)
 have h4 := nd hl
 have h5 := jL (dF l) 19 (Nat.le_refl _)
 unfold ky pY
 rw [rX]
 simp only [List.length_append, dH, jM, fV, h5]
 omega
theorem zO {B : List Int} (hB : aY B) : (du B).length ≤ B.length := by have := (rH B).len; omega
end Go.ad
namespace Go.ad
open Go.af Go.ab Go.aa
theorem qG {B : List Int} (hB : aY B) (hl : B.length ≤ 4194304) : (eB B).length ≤ 30000000 := by
 have := (B7 B).1
 rw [tW hl] at this
 omega
def jJ (n : Int) : Int := if n < 0 then 0 else n
theorem IE (n : Int) : 0 ≤ jJ n := by unfold jJ; split <;> omega
def most (n : Int) : Int := if 0 < jJ n % 65535 then jJ n + 5 * (jJ n / 65535 + 1) + 5 else jJ n + 5 * (jJ n / 65535) + 5
theorem Eg {n : Int} (h : 0 < jJ n % 65535) : most n = jJ n + 5 * (jJ n / 65535 + 1) + 5 := if_pos h
theorem Hj {n : Int} (h : ¬ 0 < jJ n % 65535) : most n = jJ n + 5 * (jJ n / 65535) + 5 := if_neg h
theorem yI {n : Int} (h : 0 ≤ n) : most n = n + 5 * ((n + 65534) / 65535) + 5 := by
 unfold most
 rw [show jJ n = n from if_neg (by omega)]
 split <;> omega
theorem Ft {B : List Int} (hl : B.length ≤ 4194304) : ((eB B).length : Int) ≤ (B.length : Int) + 5 * (((B.length : Int) + 65534) / 65535) + 5 := by
 have := (B7 B).1
 rw [tW hl] at this
 omega
end Go.ad
namespace Go.ad
open Go.af Go.ab Go.aa
theorem Fv {x : Int} {n i : Nat} (h : i < n) : (aQ x n).getD i 0 = x / 2 ^ i % 2 := by simp [aQ, List.getD_eq_getElem?_getD, h]
theorem Hs (x : Int) (n : Nat) : x % 2 ^ n + x / 2 ^ n % 2 * 2 ^ n = x % 2 ^ (n + 1) := by
 have hp : (0 : Int) < 2 ^ n := Int.pow_pos (by decide)
 have h1 := Int.mul_ediv_add_emod x (2 ^ n)
 have h2 := Int.emod_nonneg x (show (2 : Int) ^ n ≠ 0 by omega)
 have h3 := Int.emod_lt_of_pos x hp
 generalize x / 2 ^ n = q at *
 generalize x % 2 ^ n = r at *
 rw [Int.pow_succ]
 generalize (2 : Int) ^ n = p at *
 have hq : q = 2 * (q / 2) + q % 2 := (Int.mul_ediv_add_emod q 2).symm
 have hr : q % 2 = 0 ∨ q % 2 = 1 := by omega
 generalize q / 2 = e at *
 generalize q % 2 = b at *
 subst hq
 have hx : x = (r + b * p) + (p * 2) * e := by
  rw [← h1, Int.mul_add, show p * (2 * e) = p * 2 * e from by rw [Int.mul_assoc], Int.mul_comm b p]
  omega
 rw [hx, Int.add_mul_emod_self_left]
 symm
 refine Int.emod_eq_of_lt ?_ ?_
 ·rcases hr with rfl | rfl <;> omega
 ·rcases hr with rfl | rfl <;> omega
theorem xo {o : List Int} {x : Int} {a : Nat} : ∀ n, (∀ i, i < n → dM o (a + i) = x / 2 ^ i % 2) → az o a n = x % 2 ^ n
 | 0, _ => by simp [az]
 | n + 1, h => by
  rw [show az o a (n + 1) = az o a n + dM o (a + n) * 2 ^ n from rfl, xo n (fun i hi => h i (by omega)), h n (by omega)]
  exact Hs x n
theorem mg {bs o u r : List Int} {x : Int} {n : Nat} (h : Pq bs o) (e : bs = u ++ aQ x n ++ r) (hx : 0 ≤ x ∧ x < 2 ^ n) : az o u.length n = x ∧ u.length + n ≤ 8 * o.length := by
 obtain ⟨k1, k2⟩ := AL h e
 rw [dH] at k1 k2
 refine ⟨?_, k2⟩
 rw [xo n (fun i hi => by rw [k1 i hi, Fv hi])]
 exact Int.emod_eq_of_lt hx.1 hx.2
structure Rq (ls ds o : List Int) (mo : Int) (z : St) (a : Nat) (out : List Int) : Prop where
 n6 : eD o mo aa.start z
 at_ : z.at_ = a
 out : z.out = out
 k1 : ¬ z.kind = -1
 k2 : ¬ z.kind = 0
 aq : z.aq = 0
 ended : z.ended = false
 last : z.last = true
 lits : z.lits = ls
 cH : z.cH = ds
section
variable {ls ds bs o u r out : List Int} {mo y : Int} {z : St} {t : aZ}
theorem Rq.one (h : Rq ls ds o mo z u.length out) : aa.one o mo z = eG o mo z := iw (by rw [h.aq]; omega) h.k1 h.k2
theorem Kz (hE : aO ls = 0) (h : Pq bs o) (hz : Rq ls ds o mo z u.length out) (hy : 0 ≤ y ∧ y < 256) (hb : y < ls.length ∧ fT ls y = true) (e : bs = u ++ wb ls y ++ r) (hm : (out.length : Int) < mo) : ∃ z', Rq ls ds o mo z' (u ++ wb ls y).length (out ++ [y]) := by
 have hs := qW hE hy.1 hb.1 hb.2 h e
 rw [← hz.at_, ← hz.lits] at hs
 have h1 := hz.one.trans ((kp hs hy.2).trans (kR (by show (z.out.length : Int) < mo; rw [hz.out]; exact hm)))
 exact ⟨_, ⟨hz.n6.next hz.ended h1, by rw [hz.lits], by show z.out ++ [y] = _; rw [hz.out], hz.k1, hz.k2, hz.aq, hz.ended, hz.last, hz.lits, hz.cH⟩⟩
theorem K0 (hE : aO ls = 0) (hD : aO ds = 0) (h : Pq bs o) (hz : Rq ls ds o mo z u.length out) (h0 : ¬ t.n = 0) (ht : iu t) (hb : eM t.n < ls.length ∧ fT ls (eM t.n) = true ∧ ef t.aL < ds.length ∧ fT ds (ef t.aL) = true) (e : bs = u ++ jt ls ds t ++ r) (hd : t.aL ≤ out.length) (hm : (out.length : Int) + t.n ≤ mo) : ∃ z', Rq ls ds o mo z' (u ++ jt ls ds t).length (tn t.aL.toNat t.n.toNat out) := by
 obtain ⟨q1, q2, q3, q4⟩ : 3 ≤ t.n ∧ t.n ≤ 258 ∧ 1 ≤ t.aL ∧ t.aL ≤ 32768 := by
  rcases ht.pT with ⟨a, _⟩ | ⟨_, a, b, c, d⟩
  ·exact absurd a h0
  ·exact ⟨a, b, c, d⟩
 obtain ⟨l1, l2, l3, l4, l5, l6, l7⟩ := rJ ⟨q1, q2⟩
 obtain ⟨d1, d2, d3, d4, d5, d6, d7⟩ := rm ⟨q3, q4⟩
 rw [zl h0] at e ⊢
 generalize hA : wb ls (eM t.n) = A at *
 generalize hL : aQ (iG t.n) (ij t.n) = Lw at *
 generalize hDw : wb ds (ef t.aL) = Dw at *
 generalize hR : aQ (jV t.aL) (jw t.aL) = Rw at *
 have hs := qW (u := u) (r := Lw ++ Dw ++ Rw ++ r) hE (s := eM t.n) (by omega) hb.1 hb.2.1 h (by rw [e, hA]; simp only [List.append_assoc])
 rw [hA] at hs
 have hn1 := mg (u := u ++ A) (r := Dw ++ Rw ++ r) (x := iG t.n) (n := ij t.n) h (by rw [e, hL]; simp only [List.append_assoc]) ⟨l5, l6⟩
 have hs2 := qW (u := u ++ A ++ Lw) (r := Rw ++ r) hD (s := ef t.aL) d1 hb.2.2.1 hb.2.2.2 h (by rw [e, hDw]; simp only [List.append_assoc])
 rw [hDw] at hs2
 have hn2 := mg (u := u ++ A ++ Lw ++ Dw) (r := r) (x := jV t.aL) (n := jw t.aL) h (by rw [e, hR]; simp only [List.append_assoc]) ⟨d5, d6⟩
 have hLl : Lw.length = ij t.n := by rw [← hL, dH]
 have hRl : Rw.length = jw t.aL := by rw [← hR, dH]
 have g1 : eo o (eM t.n - 257) (u ++ A).length = .ok (t.n, (u ++ A ++ Lw).length) := by
  unfold eo
  rw [if_neg (by omega), l3, if_neg (by omega), hn1.1, l4, List.length_append (as := u ++ A), hLl]
 have g2 : dr o z.cH (u ++ A ++ Lw).length = .ok (t.aL, (u ++ (A ++ Lw ++ Dw ++ Rw)).length) := by
  unfold dr
  rw [hz.cH, hs2]
  simp only
  rw [if_neg (by omega), d3, if_neg (by omega), hn2.1, d4]
  simp only [List.length_append, hRl, Nat.add_assoc]
 rw [← hz.at_, ← hz.lits] at hs
 have h4 := hz.one.trans (pQ hs (by omega) g1 g2 (by rw [hz.out]; exact hd))
 obtain ⟨z', g, a1, a2, a3, a4, a5, a6, a7, a8⟩ := BC (o := o) (mo := mo) t.n.toNat (z := { z with at_ := (u ++ (A ++ Lw ++ Dw ++ Rw)).length, aq := t.n.toNat, aL := t.aL.toNat }) rfl hz.ended (by show (z.out.length : Int) + (t.n.toNat : Nat) ≤ mo; rw [hz.out]; omega)
 exact ⟨z', (hz.n6.next hz.ended h4).trans g, a1, by rw [a2]; show tn t.aL.toNat t.n.toNat z.out = _; rw [hz.out], by rw [a3]; exact hz.k1, by rw [a3]; exact hz.k2, a4, a5, a6.trans hz.last, a7.trans hz.lits, a8.trans hz.cH⟩
theorem Js (hE : aO ls = 0) (h : Pq bs o) (hz : Rq ls ds o mo z u.length out) (hb : (256 : Int) < ls.length ∧ fT ls 256 = true) (e : bs = u ++ wb ls 256 ++ r) : ia o mo aa.start (.ok (out, ((u ++ wb ls 256).length + 7) / 8)) := by
 have hs := qW hE (s := 256) (by omega) hb.1 hb.2 h e
 rw [← hz.at_, ← hz.lits] at hs
 have h1 := hz.one.trans (lS hs rfl)
 have := hz.n6.next hz.ended h1 _ (.done hz.last)
 rw [show ({ z with at_ := (u ++ wb z.lits 256).length, kind := -1, ended := z.last } : St).out = out from hz.out] at this
 rw [← hz.lits]
 exact this
theorem HB {B : List Int} (hB : aY B) (hE : aO ls = 0) (hD : aO ds = 0) (h : Pq bs o) (hm : (B.length : Int) ≤ mo) {a : Nat} {l : List aZ} (hT : jE B a l) : ∀ {u : List Int} {z : St}, Rq ls ds o mo z u.length (B.take a) → Fits ls ds l → bs = u ++ cv ls ds l ++ r → ∃ z', Rq ls ds o mo z' (u ++ cv ls ds l).length B := by
 induction hT with
 | nil =>
  intro u z hz _ _
  rw [List.take_length] at hz
  exact ⟨z, by simpa [cv] using hz⟩
 | @lit a l hl hT ih =>
  intro u z hz hF e
  have hbc : cv ls ds (⟨B.getD a 0, 0, 0⟩ :: l) = wb ls (B.getD a 0) ++ cv ls ds l := by simp [cv, jt]
  have hby := hB.get a
  have hfl := hF.lit _ (List.mem_cons_self ..) rfl
  obtain ⟨z1, h1⟩ := Kz (r := cv ls ds l ++ r) hE h hz hby hfl (by rw [e, hbc]; simp only [List.append_assoc]) (by rw [List.length_take]; omega)
  have e1 : B.take a ++ [B.getD a 0] = B.take (a + 1) := by
   rw [List.take_add_one]
   simp [List.getD_eq_getElem?_getD, hl]
  rw [e1] at h1
  obtain ⟨z2, h2⟩ := ih h1 ⟨fun t ht => hF.ok t (List.mem_cons_of_mem _ ht), fun t ht => hF.lit t (List.mem_cons_of_mem _ ht), fun t ht => hF.cp t (List.mem_cons_of_mem _ ht), hF.end_⟩ (by rw [e, hbc]; simp only [List.append_assoc])
  refine ⟨z2, ?_⟩
  rw [hbc, ← List.append_assoc]
  exact h2
 | @cp a n d l c1 c2 c3 c4 c5 c6 c7 hT ih =>
  intro u z hz hF e
  have hbc : cv ls ds (⟨0, (n : Int), (d : Int)⟩ :: l) = jt ls ds ⟨0, n, d⟩ ++ cv ls ds l := by simp [cv]
  have hn0 : ¬ ((n : Int) = 0) := by omega
  have hlt : (B.take a).length = a := by rw [List.length_take]; omega
  obtain ⟨z1, h1⟩ := K0 (t := ⟨0, n, d⟩) (r := cv ls ds l ++ r) hE hD h hz hn0 (hF.ok _ (List.mem_cons_self ..)) (hF.cp _ (List.mem_cons_self ..) hn0) (by rw [e, hbc]; simp only [List.append_assoc]) (by rw [hlt]; show (d : Int) ≤ a; omega) (by rw [hlt]; show (a : Int) + (n : Int) ≤ mo; omega)
  rw [show tn (d : Int).toNat (n : Int).toNat (B.take a) = B.take (a + n) from xP n a c6 c3 c5 c7] at h1
  obtain ⟨z2, h2⟩ := ih h1 ⟨fun t ht => hF.ok t (List.mem_cons_of_mem _ ht), fun t ht => hF.lit t (List.mem_cons_of_mem _ ht), fun t ht => hF.cp t (List.mem_cons_of_mem _ ht), hF.end_⟩ (by rw [e, hbc]; simp only [List.append_assoc])
  refine ⟨z2, ?_⟩
  rw [hbc, ← List.append_assoc]
  exact h2
end
theorem Cc {bs : List Int} (h : mC bs) : ∀ i, i ≤ bs.length → ∃ o, Po bs i o
 | 0, _ => ⟨_, Po.K8 bs⟩
 | i + 1, hi => by
  obtain ⟨o, ho⟩ := Cc h i (by omega)
  exact ⟨_, ho.step (by omega) (h.get i)⟩
theorem B0 {bs : List Int} (h : mC bs) : ∃ fr, fr < 8 ∧ Pk bs (lJ bs) fr := by
 obtain ⟨o, ho⟩ := Cc h bs.length (Nat.le_refl _)
 have hl := ho.len
 have hp : Pk bs o (8 * o.length - bs.length) := ⟨by omega, by omega, ho.lH, ho.get, ho.zero⟩
 have := BM hp (by omega)
 rw [← this]
 exact ⟨_, by omega, hp⟩
theorem zd {bs : List Int} (h : mC bs) : aY (lJ bs) := by
 obtain ⟨fr, _, hp⟩ := B0 h
 exact hp.lH
theorem CM {bs t : List Int} (h : mC bs) (ht : aY t) : Pq bs (lJ bs ++ t) := by
 obtain ⟨fr, h8, hp⟩ := B0 h
 have hl := hp.len
 refine ⟨fun x hx => ?_, by rw [List.length_append]; omega, fun i hi => ?_⟩
 ·rcases List.mem_append.1 hx with hx | hx
  ·exact hp.lH x hx
  ·exact ht x hx
 ·rw [← hp.get i hi]
  unfold dM
  rw [ny _ _ _ (by omega)]
theorem tR {ls : List Int} {s : Int} : mC (wb ls s) := Ly
theorem J9 (f : List Int) (l : List Int) : mC (ab.bits f l) := fun x hx => by
 obtain ⟨y, _, h⟩ := List.mem_flatMap.1 hx
 exact tR x h
theorem wu (ls ds : List Int) (l : List aZ) : mC (cv ls ds l) := fun x hx => by
 obtain ⟨t, _, h⟩ := List.mem_flatMap.1 hx
 unfold jt at h
 split at h
 ·exact tR x h
 ·rcases List.mem_append.1 h with h | h
  ·rcases List.mem_append.1 h with h | h
   ·rcases List.mem_append.1 h with h | h
    ·exact tR x h
    ·exact kB _ _ x h
   ·exact tR x h
  ·exact kB _ _ x h
theorem H6 (f : List Int) (k : Nat) : mC (dX f k) := fun x hx => by
 obtain ⟨t, _, h⟩ := List.mem_flatMap.1 hx
 exact kB _ _ x h
theorem C3 (l : List aZ) : mC (GF l) := ((kB _ _).app (kB _ _)).app ((wu _ _ l).app tR)
theorem BT (l : List aZ) : mC (pY l) := ((((((((kB _ _).app (kB _ _)).app (kB _ _)).app (kB _ _)).app (kB _ _)).app (H6 _ _))).app (J9 _ _)).app ((wu _ _ l).app tR)
theorem Bp {bs o B : List Int} {mo : Int} {l : List aZ} {ls ds u : List Int} {z : St} (hmo : (B.length : Int) ≤ mo) (hB : aY B) (hT : jE B 0 l) (hE : aO ls = 0) (hD : aO ds = 0) (hF : Fits ls ds l) (h : Pq bs o) (hz : Rq ls ds o mo z u.length []) (e : bs = u ++ (cv ls ds l ++ wb ls 256)) : gU o mo (B, (((bs.length + 7) / 8 : Nat) : Int), 0) := by
 obtain ⟨z1, h1⟩ := HB (r := wb ls 256) hB hE hD h hmo hT (u := u) (z := z) hz hF (by rw [e]; simp only [List.append_assoc])
 have h2 := Js (r := []) hE h h1 hF.end_ (by rw [e]; simp only [List.append_assoc, List.append_nil])
 refine .inr ⟨by omega, _, h2, ?_⟩
 rw [show (u ++ cv ls ds l ++ wb ls 256).length = bs.length from by rw [e, List.append_assoc]]
 rfl
theorem JW {B t : List Int} {mo : Int} (hmo : (B.length : Int) ≤ mo) (hB : aY B) (ht : aY t) : gU (k7 (du B) ++ t) mo (B, ((k7 (du B)).length : Int), 0) := by
 have hT := rH B
 have hq := CM (C3 (du B)) ht
 obtain ⟨z, hz⟩ := Fl (mo := mo) (r := cv bF fu (du B) ++ wb bF 256) hq (by rfl)
 have hz2 : Rq bF fu (lJ (GF (du B)) ++ t) mo z (aQ 3 3).length [] := ⟨hz.n6, hz.at_, hz.out, by rw [hz.kind]; decide, by rw [hz.kind]; decide, hz.aq, hz.ended, hz.last, hz.lits, hz.cH⟩
 have := Bp hmo hB hT kU lX (FV (hT.ok hB)) hq hz2 rfl
 rw [← rX] at this
 exact this
end Go.ad

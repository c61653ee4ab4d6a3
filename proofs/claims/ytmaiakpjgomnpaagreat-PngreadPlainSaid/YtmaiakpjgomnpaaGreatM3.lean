/- Walks of functions that the law reaches, and what they lean on; no conditions. -/
import Derived.Test.YtmaiakpjgomnpaaGreatM2
import Derived.KernelRfl
set_option linter.unusedVariables false
set_option linter.unusedSimpArgs false
set_option maxRecDepth 100000
namespace Go.ad
open Go.aj Go.af
section
variable {B : List Int} {mo e : Int}
theorem vO {ls : List Int} {a : Nat} (h : sym ls B a = .error e) : e ≠ 0 := by
  unfold sym at h; split at h <;> cases h <;> decide
theorem Kf {l : List Int} {s : Int} {a : Nat} (h : rep B s l a = .error e) : e ≠ 0 := by
  unfold rep at h
  split at h
  · cases h
  split at h
  · cases h; decide
  split at h
  · cases h; decide
  · cases h
theorem Ge {c : List Int} {tot : Nat} : ∀ {f : Nat} {l : List Int} {a : Nat}, fz B c tot f l a = .error e → e ≠ 0 := by
  intro f
  induction f with
  | zero => intro l a h; cases h
  | succ f ih =>
    intro l a h
    simp only [fz] at h
    split at h
    · rcases Al B c l a with ⟨e2, hs⟩ | ⟨sy, x2, e2, hs, hr⟩ | ⟨sy, x2, v, n, x3, hs, hr⟩
      · rw [r5 hs] at h; cases h; exact vO hs
      · rw [sa hs hr] at h; cases h; exact Kf hr
      · rw [mP hs hr] at h
        simp only at h
        split at h
        · exact ih h
        · cases h; decide
    · cases h
theorem Hc {a : Nat} (h : told B a = .error e) : e ≠ 0 := by
  unfold told at h
  split at h
  · cases h; decide
  split at h
  · cases h; decide
  split at h
  · cases h; decide
  split at h
  · cases h; decide
  split at h
  · rename_i e2 h2; cases h; exact Ge h2
  · split at h
    · cases h; decide
    · cases h
theorem w5 {s : St} {y : Int} (h : eX mo s y = .error e) : e ≠ 0 := by
  unfold eX at h; split at h <;> cases h; decide
theorem IU {s : Int} {a : Nat} (h : fo B s a = .error e) : e ≠ 0 := by
  unfold fo at h
  split at h
  · cases h; decide
  split at h
  · cases h; decide
  · cases h
theorem Hs {ds : List Int} {a : Nat} (h : eG B ds a = .error e) : e ≠ 0 := by
  unfold eG at h
  split at h
  · rename_i e2 h2; cases h; exact vO h2
  · split at h
    · cases h; decide
    split at h
    · cases h; decide
    · cases h
theorem D3 {s : St} (h : dM B s = .error e) : e ≠ 0 := by
  unfold dM at h
  split at h
  · cases h; decide
  split at h
  · split at h
    · cases h; decide
    split at h
    · cases h
    · cases h; decide
  split at h
  · cases h
  split at h
  · split at h
    · rename_i e2 h2; cases h; exact Hc h2
    · cases h
  · cases h; decide
theorem Dk {s : St} (h : eY B mo s = .error e) : e ≠ 0 := by
  rcases gy (sym s.lits B s.at_) with ⟨e2, hs⟩ | ⟨⟨y, a⟩, hs⟩
  · rw [vg hs] at h; cases h; exact vO hs
  by_cases h1 : y < 256
  · rw [nP hs h1] at h; exact w5 h
  by_cases h2 : y = 256
  · rw [qP hs h2] at h; cases h
  rcases gy (fo B (y - 257) a) with ⟨e2, hn⟩ | ⟨⟨n, a2⟩, hn⟩
  · rw [vn hs (by omega) hn] at h; cases h; exact IU hn
  rcases gy (eG B s.eM a2) with ⟨e2, hf⟩ | ⟨⟨f, a3⟩, hf⟩
  · rw [va hs (by omega) hn hf] at h; cases h; exact Hs hf
  by_cases h3 : f ≤ s.out.length
  · rw [vm hs (by omega) hn hf h3] at h; cases h
  · rw [vc hs (by omega) hn hf h3] at h; cases h; decide
theorem CX {s : St} (h : one B mo s = .error e) : e ≠ 0 := by
  unfold one at h
  split at h
  · exact w5 h
  split at h
  · exact D3 h
  split at h
  · exact Dk h
  split at h
  · cases h
  split at h
  · cases h; decide
  · exact w5 h
theorem Fj {s : St} {w : Nat} {n : Int} {o : Jt} (h : Lp B mo w n s o) : o = .error e → e ≠ 0 := by
  induction h with
  | stop _ => intro h; cases h
  | step _ _ _ _ ih => exact ih
  | fail _ _ h => intro q; cases q; exact CX h
theorem GI {s : St} {o : Oc} (h : jX B mo s o) : o = .error e → e ≠ 0 := by
  induction h with
  | done _ => intro h; cases h
  | step _ _ _ ih => exact ih
  | fail _ h => intro q; cases q; exact CX h
end
def Bf (B : List Int) : Jt → Nat
  | .ok s => mu B s + 1
  | .error _ => 0
def zq : Jt → Nat
  | .ok s => s.out.length
  | .error _ => 0
theorem C9 {B : List Int} {mo : Int} {r : Jt} (hB : av B) (hok : uQ B mo r) (n : Int) : ∃ r', Ac B mo n r r' := by
  by_cases hn : n < 1
  · exact ⟨r, .inl ⟨.inl hn, rfl⟩⟩
  cases r with
  | error e => exact ⟨_, .inl ⟨.inr rfl, rfl⟩⟩
  | ok s =>
    cases he : s.ended with
    | true => exact ⟨_, .inl ⟨.inr he, rfl⟩⟩
    | false =>
      obtain ⟨o, ho⟩ := M9 hB s.out.length n _ (Nat.le_refl _) hok
      exact ⟨o, .inr ⟨by omega, s, rfl, he, ho⟩⟩
structure Np (B : List Int) (mo : Int) (s0 : St) (n : Int) (r r' : Jt) : Prop where
  ok : uQ B mo r'
  at_ : CS B mo s0 r'
  le : Bf B r' ≤ Bf B r
  less : kB r = false → 1 ≤ n → Bf B r' < Bf B r
  out : kB r = false → 1 ≤ n → kB r' = true ∨ zq r + 1 ≤ zq r'
  stay : (n < 1 ∨ kB r = true) → r' = r
theorem Ah {B : List Int} {mo n : Int} {s0 : St} {r r' : Jt} (hB : av B) (hok : uQ B mo r) (hat : CS B mo s0 r) (h : Ac B mo n r r') : Np B mo s0 n r r' := by
  rcases h with ⟨hx, rfl⟩ | ⟨hn, s, rfl, he, hl⟩
  · refine ⟨hok, hat, Nat.le_refl _, fun h1 h2 => ?_, fun h1 h2 => ?_, fun _ => rfl⟩ <;> (exfalso; rcases hx with hx | hx; omega; rw [h1] at hx; cases hx)
  · obtain ⟨k1, k2⟩ := Ht hB hl hok
    cases r' with
    | ok s2 =>
      obtain ⟨m1, m2, m3, m4, m5, m6⟩ := k1 s2 rfl
      have := m5 he (by omega)
      refine ⟨m1, hat.trans m3, by show mu B s2 + 1 ≤ mu B s + 1; omega, fun _ _ => by show mu B s2 + 1 < mu B s + 1; omega, fun _ _ => ?_, fun hx => ?_⟩
      · rcases m4 with m4 | m4
        · exact .inl m4
        · right; show s.out.length + 1 ≤ s2.out.length; omega
      · exfalso; rcases hx with hx | hx
        · omega
        · rw [show kB (.ok s) = s.ended from rfl, he] at hx; cases hx
    | error e =>
      refine ⟨Fj hl rfl, hat _ (k2 e rfl), Nat.zero_le _, fun _ _ => Nat.succ_pos _, fun _ _ => .inl rfl, fun hx => ?_⟩
      exfalso; rcases hx with hx | hx
      · omega
      · rw [show kB (.ok s) = s.ended from rfl, he] at hx; cases hx
def jO (B : List Int) (mo : Int) (q : List Int × Int × Int) : Prop := (mo < 0 ∧ q = ([], 0, 1)) ∨ (0 ≤ mo ∧ ∃ o, jX B mo start o ∧ q = Ou o)
theorem jO.CL {B : List Int} {mo : Int} {q q' : List Int × Int × Int} (h : jO B mo q) (h' : jO B mo q') : q = q' := by
  rcases h with ⟨a, rfl⟩ | ⟨a, o, r, rfl⟩ <;> rcases h' with ⟨a', rfl⟩ | ⟨a', o', r', rfl⟩
  · rfl
  · omega
  · omega
  · rw [r.CL r']
theorem H9 {B : List Int} {mo : Int} {r : Jt} (hm : 0 ≤ mo) (h : CS B mo start r) (he : kB r = true) : jO B mo (qA r, re r, zE r) := by
  refine .inr ⟨hm, ?_⟩
  cases r with
  | ok s => exact ⟨.ok (s.out, (s.at_ + 7) / 8), h _ (.done he), by simp only [qA, re, zE, Ou]; rw [if_pos (show s.ended = true from he), if_pos (show s.ended = true from he)]⟩
  | error e => exact ⟨.error e, h, rfl⟩
theorem CI {B : List Int} {mo : Int} (hB : av B) {s : St} {o : Oc} (h : jX B mo s o) : Ok B mo s → ∀ x n, o = .ok (x, n) → (x.length : Int) ≤ mo ∧ n ≤ B.length ∧ av x := by
  induction h with
  | done h => intro hok x n e; cases e; exact ⟨hok.room, by have := hok.at_; omega, hok.sV⟩
  | step h1 h2 h3 ih => intro hok; exact ih (lN hB hok h2).ok
  | fail _ _ => intro _ x n e; cases e
end Go.ad
namespace Go.ad
open Go.aj Go.af
def RE (mo : Int) : Jt := if mo < 0 then .error 1 else .ok start
structure Way (B : List Int) (mo : Int) (r : Jt) : Prop where
  ok : uQ B mo r
  at_ : (0 ≤ mo ∧ CS B mo start r) ∨ (mo < 0 ∧ r = .error 1)
structure Rt (B : List Int) (mo n : Int) (r r' : Jt) : Prop where
  RP : Way B mo r'
  out : kB r = false → 1 ≤ n → kB r' = true ∨ zq r + 1 ≤ zq r'
  stay : (n < 1 ∨ kB r = true) → r' = r
end Go.ad
namespace Go.ad
open Go.aj Go.af
end Go.ad
namespace Go.ad
open Go.aj Go.af
def Re : List Int := [3, 4, 5, 6, 7, 8, 9, 10, 11, 13, 15, 17, 19, 23, 27, 31, 35, 43, 51, 59, 67, 83, 99, 115, 131, 163, 195, 227, 258]
def Ra : List Int := [0, 0, 0, 0, 0, 0, 0, 0, 1, 1, 1, 1, 2, 2, 2, 2, 3, 3, 3, 3, 4, 4, 4, 4, 5, 5, 5, 5, 0]
structure Dn (B : List Int) (mo : Int) (S S' : St) : Prop where
  zX : iz B mo S S'
  ok : Ok B mo S'
  kind : S'.kind = -1
  ay : S'.ay = 0
  ended : S'.ended = S'.last
  last : S'.last = S.last
structure In (B : List Int) (mo : Int) (S s : St) : Prop where
  zX : iz B mo S s
  ok : Ok B mo s
  kind : s.kind = S.kind
  ay : s.ay = 0
  ended : s.ended = false
  last : s.last = S.last
  lits : s.lits = S.lits
  eM : s.eM = S.eM
section
variable {B : List Int} {mo e : Int} {S s s2 : St}
end
end Go.ad
namespace Go.ad
open Go.aj Go.af
inductive Bl (B : List Int) (mo : Int) : St → Except Int St → Prop
  | done {s : St} : s.kind = -1 → Bl B mo s (.ok s)
  | step {s s' : St} {o : Except Int St} : ¬ s.kind = -1 → one B mo s = .ok s' → Bl B mo s' o → Bl B mo s o
  | fail {s : St} {e : Int} : ¬ s.kind = -1 → one B mo s = .error e → Bl B mo s (.error e)
section
variable {B : List Int} {mo e : Int} {s s2 : St} {o : Except Int St}
structure Left (B : List Int) (mo : Int) (s s2 : St) : Prop where
  zX : iz B mo s s2
  ok : Ok B mo s2
  kind : s2.kind = -1
  ay : s2.ay = 0
  ended : s2.ended = s2.last
  last : s2.last = s.last
  less : mu B s2 ≤ mu B s
end
def BO (B : List Int) (mo : Int) (S : St) (o : Except Int St) : Prop := (∃ e, dM B S = .error e ∧ o = .error e) ∨ (∃ S1, dM B S = .ok S1 ∧ Bl B mo S1 o)
section
variable {B : List Int} {mo e : Int} {S S1 : St} {o : Except Int St}
end
section
variable {B ds : List Int} {s d : Int} {a a3 n : Nat}
end
end Go.ad
namespace Go.ad
end Go.ad
namespace Go.ad
end Go.ad
namespace Go.ad
open Go.aj
end Go.ad
namespace Go.ad
open Go.aj Go.af
def run (B : List Int) (mo : Int) : Nat → St → Option Oc
  | 0, _ => none
  | f + 1, s => if s.ended = true then some (.ok (s.out, (s.at_ + 7) / 8)) else match one B mo s with
    | .error e => some (.error e)
    | .ok s' => run B mo f s'
def Rz (B : List Int) (mo : Int) (f : Nat) (q : List Int × Int × Int) : Bool := match run B mo f start with
  | some o => decide (Ou o = q)
  | none => false
end Go.ad
namespace Go.ad
end Go.ad
namespace Go.ad
open Go.aj Go.af
section
variable {B : List Int} {mo mo' y : Int} {s s2 : St}
theorem xy (h : eX mo s y = .ok s2) : ((s2.out.length : Int) ≤ mo' → eX mo' s y = .ok s2) ∧ (mo' < s2.out.length → eX mo' s y = .error 6) := by
  obtain ⟨k, rfl⟩ := qk h
  have hl : ({ s with out := s.out ++ [y] } : St).out.length = s.out.length + 1 := by simp
  rw [hl]
  exact ⟨fun h => mK (by omega), fun h => mZ (by omega)⟩
theorem Et (h : eY B mo s = .ok s2) (hs : (s.out.length : Int) ≤ mo') : ((s2.out.length : Int) ≤ mo' → eY B mo' s = .ok s2) ∧ (mo' < s2.out.length → eY B mo' s = .error 6) := by
  rcases gy (sym s.lits B s.at_) with ⟨e, h1⟩ | ⟨⟨y, a⟩, h1⟩
  · rw [vg h1] at h; cases h
  by_cases hy : y < 256
  · rw [nP h1 hy] at h ⊢; exact xy h
  by_cases hy2 : y = 256
  · rw [qP h1 hy2] at h ⊢; cases h; exact ⟨fun _ => rfl, fun k => by simp only at k; omega⟩
  rcases gy (fo B (y - 257) a) with ⟨e, hn⟩ | ⟨⟨n, a2⟩, hn⟩
  · rw [vn h1 (by omega) hn] at h; cases h
  rcases gy (eG B s.eM a2) with ⟨e, hf⟩ | ⟨⟨f, a3⟩, hf⟩
  · rw [va h1 (by omega) hn hf] at h; cases h
  by_cases hfo : f ≤ s.out.length
  · rw [vm h1 (by omega) hn hf hfo] at h ⊢; cases h; exact ⟨fun _ => rfl, fun k => by simp only at k; omega⟩
  · rw [vc h1 (by omega) hn hf hfo] at h; cases h
theorem wV (h : one B mo s = .ok s2) (hs : (s.out.length : Int) ≤ mo') : ((s2.out.length : Int) ≤ mo' → one B mo' s = .ok s2) ∧ (mo' < s2.out.length → one B mo' s = .error 6) := by
  by_cases hc : 0 < s.ay
  · unfold one at h ⊢; rw [if_pos hc] at h ⊢; exact xy h
  by_cases hk : s.kind = -1
  · rw [tC hc hk] at h ⊢
    refine ⟨fun _ => h, fun k => ?_⟩
    exfalso
    have : s2.out = s.out := by
      unfold dM at h
      split at h
      · cases h
      split at h
      · split at h
        · cases h
        split at h
        · cases h; rfl
        · cases h
      split at h
      · cases h; rfl
      split at h
      · split at h
        · cases h
        · cases h; rfl
      · cases h
    rw [this] at k; omega
  by_cases hk0 : s.kind = 0
  · by_cases hl : s.left = 0
    · rw [sW hc hk hk0 hl] at h ⊢; cases h; exact ⟨fun _ => rfl, fun k => by simp only at k; omega⟩
    · by_cases hx : 8 * B.length < s.at_ + 8
      · rw [wW hc hk hk0 hl hx] at h; cases h
      · rw [sk hc hk hk0 hl (by omega)] at h ⊢; exact xy h
  · rw [vh hc hk hk0] at h ⊢; exact Et h hs
theorem ye {o : Oc} (hB : av B) (h : jX B mo s o) : Ok B mo s → ∀ x n, o = .ok (x, n) → s.out.length ≤ x.length ∧ ((x.length : Int) ≤ mo' → jX B mo' s (.ok (x, n))) ∧ ((s.out.length : Int) ≤ mo' → mo' < x.length → jX B mo' s (.error 6)) := by
  induction h with
  | done h => intro hok x n e; cases e; exact ⟨Nat.le_refl _, fun _ => .done h, fun h1 h2 => by omega⟩
  | step h1 h2 h3 ih =>
    intro hok x n e
    have hg := lN hB hok h2
    obtain ⟨k1, k2, k3⟩ := ih hg.ok x n e
    have hle := hg.le
    refine ⟨by omega, fun k => .step h1 ((wV h2 (by omega)).1 (by omega)) (k2 k), fun q1 q2 => ?_⟩
    rename_i s' _
    by_cases hc : mo' < s'.out.length
    · exact .fail h1 ((wV h2 q1).2 hc)
    · exact .step h1 ((wV h2 q1).1 (by omega)) (k3 (by omega) q2)
  | fail _ _ => intro _ x n e; cases e
end
end Go.ad
namespace Go.ad
open Go.aj Go.af
section
variable {B : List Int}
theorem js (j i : Nat) (hi : i < 8) : jf B (8 * j + i) = B.getD j 0 / 2 ^ i % 2 := by
  unfold jf
  rw [show (8 * j + i) / 8 = j by omega, show (8 * j + i) % 8 = i by omega]
theorem su (a m : Nat) : ∀ n, aS B a (m + n) = aS B a m + aS B (a + m) n * 2 ^ m
  | 0 => by simp [aS]
  | n + 1 => by
    have := su a m n
    show aS B a (m + n) + jf B (a + (m + n)) * 2 ^ (m + n) = aS B a m + (aS B (a + m) n + jf B (a + m + n) * 2 ^ n) * 2 ^ m
    rw [this, Int.add_mul, Int.add_assoc, Nat.add_assoc a m n, Int.mul_assoc, ← Int.pow_add, Nat.add_comm n m]
theorem vL {j : Nat} (hb : 0 ≤ B.getD j 0 ∧ B.getD j 0 < 256) : aS B (8 * j) 8 = B.getD j 0 := by
  simp only [aS]
  rw [show 8 * j + 0 = 8 * j + 0 from rfl, js j 0 (by omega), js j 1 (by omega), js j 2 (by omega), js j 3 (by omega), js j 4 (by omega), js j 5 (by omega), js j 6 (by omega), js j 7 (by omega)]
  generalize B.getD j 0 = b at hb ⊢
  simp only [show (2 : Int) ^ 0 = 1 from rfl, show (2 : Int) ^ 1 = 2 from rfl, show (2 : Int) ^ 2 = 4 from rfl, show (2 : Int) ^ 3 = 8 from rfl, show (2 : Int) ^ 4 = 16 from rfl, show (2 : Int) ^ 5 = 32 from rfl, show (2 : Int) ^ 6 = 64 from rfl, show (2 : Int) ^ 7 = 128 from rfl]
  omega
theorem zl {j : Nat} (hb : 0 ≤ B.getD j 0 ∧ B.getD j 0 < 256) (hc : 0 ≤ B.getD (j + 1) 0 ∧ B.getD (j + 1) 0 < 256) : aS B (8 * j) 16 = B.getD j 0 + 256 * B.getD (j + 1) 0 := by
  rw [show (16 : Nat) = 8 + 8 from rfl, su, vL hb, show 8 * j + 8 = 8 * (j + 1) by omega, vL hc]
  omega
theorem EF {mo : Int} (hB : av B) : ∀ (X : List Int) {s : St} {pos : Nat}, s.kind = 0 → s.ay = 0 → s.ended = false → s.left = X.length → s.at_ = 8 * pos → (∀ i, i < X.length → B.getD (pos + i) 0 = X.getD i 0) → pos + X.length ≤ B.length → (s.out.length : Int) + X.length ≤ mo →
    ∃ s', iz B mo s s' ∧ s'.at_ = 8 * (pos + X.length) ∧ s'.out = s.out ++ X ∧ s'.kind = -1 ∧ s'.ay = 0 ∧ s'.ended = s.last := by
  intro X
  induction X with
  | nil =>
    intro s pos hk hc he hl ha hx hp hm
    have h1 := sW (B := B) (mo := mo) (s := s) (by omega) (by omega) hk hl
    exact ⟨_, iz.one he h1, by simpa using ha, by simp, rfl, hc, rfl⟩
  | cons x X ih =>
    intro s pos hk hc he hl ha hx hp hm
    have hx0 : B.getD pos 0 = x := by simpa using hx 0 (by simp)
    have hp2 : pos + (X.length + 1) ≤ B.length := by simpa using hp
    have hl2 : s.left = X.length + 1 := by simpa using hl
    have hm2 : (s.out.length : Int) + (X.length + 1) ≤ mo := by simpa using hm
    have h1 := A6 (B := B) (mo := mo) (s := s) (by omega) (by omega) hk (by omega) (by omega) (by omega)
    rw [ha, vL (hB.get pos), hx0] at h1
    obtain ⟨s', g, a1, a2, a3, a4, a5⟩ := ih (s := { s with at_ := 8 * pos + 8, left := s.left - 1, out := s.out ++ [x] }) (pos := pos + 1) hk hc he (by show s.left - 1 = X.length; omega) (by show 8 * pos + 8 = 8 * (pos + 1); omega) (fun i hi => by
      have := hx (i + 1) (by simp; omega)
      rw [show pos + 1 + i = pos + (i + 1) by omega, this]; simp) (by omega) (by show ((s.out ++ [x]).length : Int) + X.length ≤ mo; simp; omega)
    exact ⟨s', (iz.one he h1).trans g, by rw [a1]; simp; omega, by rw [a2]; simp, a3, a4, a5⟩
def fY (la : Int) (X : List Int) : List Int := [la, (X.length : Int) % 256, (X.length : Int) / 256, 255 - (X.length : Int) % 256, 255 - (X.length : Int) / 256] ++ X
theorem kQ (la : Int) (X : List Int) : (fY la X).length = 5 + X.length := by simp [fY]; omega
theorem uY {mo : Int} (hB : av B) {s : St} {pos : Nat} {la : Int} {X : List Int} (hla : la = 0 ∨ la = 1) (hX : X.length ≤ 65535) (hk : s.kind = -1) (hc : s.ay = 0) (he : s.ended = false) (ha : s.at_ = 8 * pos) (hx : ∀ i, i < (fY la X).length → B.getD (pos + i) 0 = (fY la X).getD i 0) (hp : pos + (fY la X).length ≤ B.length) (hm : (s.out.length : Int) + X.length ≤ mo) :
    ∃ s', iz B mo s s' ∧ s'.at_ = 8 * (pos + (fY la X).length) ∧ s'.out = s.out ++ X ∧ s'.kind = -1 ∧ s'.ay = 0 ∧ s'.ended = decide (la = 1) := by
  have hbl := kQ la X
  have b0 : B.getD pos 0 = la := by simpa [fY] using hx 0 (by omega)
  have b1 : B.getD (pos + 1) 0 = (X.length : Int) % 256 := by simpa [fY] using hx 1 (by omega)
  have b2 : B.getD (pos + 2) 0 = (X.length : Int) / 256 := by simpa [fY] using hx 2 (by omega)
  have b3 : B.getD (pos + 3) 0 = 255 - (X.length : Int) % 256 := by simpa [fY] using hx 3 (by omega)
  have b4 : B.getD (pos + 4) 0 = 255 - (X.length : Int) / 256 := by simpa [fY] using hx 4 (by omega)
  have e0 : aS B s.at_ 1 = la := by
    rw [ha, vU, show 8 * pos = 8 * pos + 0 from rfl, js pos 0 (by omega), b0]
    rcases hla with rfl | rfl <;> rfl
  have e1 : aS B (s.at_ + 1) 2 = 0 := by
    rw [ha]
    simp only [aS]
    rw [show 8 * pos + 1 + 0 = 8 * pos + 1 from rfl, show 8 * pos + 1 + 1 = 8 * pos + 2 from rfl, js pos 1 (by omega), js pos 2 (by omega), b0]
    rcases hla with rfl | rfl <;> rfl
  have hal : dG (s.at_ + 3) = 8 * (pos + 1) := by rw [vJ, ha]; omega
  have n1 : aS B (dG (s.at_ + 3)) 16 = (X.length : Int) := by rw [hal, zl (hB.get _) (hB.get _), b1, show pos + 1 + 1 = pos + 2 from rfl, b2]; omega
  have n2 : aS B (dG (s.at_ + 3) + 16) 16 = 65535 - (X.length : Int) := by rw [hal, show 8 * (pos + 1) + 16 = 8 * (pos + 3) by omega, zl (hB.get _) (hB.get _), b3, show pos + 3 + 1 = pos + 4 from rfl, b4]; omega
  have hb := xh (B := B) (s := s) (by omega) e1 (by omega) (by rw [n1, n2]; omega)
  have h1 := (tC (B := B) (mo := mo) (s := s) (by omega) hk).trans hb
  rw [n1, e0, hal] at h1
  obtain ⟨s', g, a1, a2, a3, a4, a5⟩ := EF (mo := mo) hB X (s := { s with at_ := 8 * (pos + 1) + 32, kind := 0, left := ((X.length : Int)).toNat, last := decide (la = 1) }) (pos := pos + 5) rfl hc he (by show ((X.length : Int)).toNat = X.length; omega) (by show 8 * (pos + 1) + 32 = 8 * (pos + 5); omega) (fun i hi => by
    have := hx (5 + i) (by omega)
    rw [show pos + 5 + i = pos + (5 + i) by omega, this]; simp [fY, Nat.add_comm 5 i]) (by omega) hm
  exact ⟨s', (iz.one he h1).trans g, by rw [a1]; omega, a2, a3, a4, a5⟩
def fW : List (List Int) → List Int
  | [] => []
  | [X] => fY 1 X
  | X :: Y :: L => fY 0 X ++ fW (Y :: L)
theorem vI (a b : List Int) (i : Nat) (h : i < a.length) : (a ++ b).getD i 0 = a.getD i 0 := by
  rw [List.getD_eq_getElem?_getD, List.getElem?_append_left h, ← List.getD_eq_getElem?_getD]
theorem dW (a b : List Int) (i : Nat) : (a ++ b).getD (a.length + i) 0 = b.getD i 0 := by
  rw [List.getD_eq_getElem?_getD, List.getElem?_append_right (by omega), Nat.add_sub_cancel_left, ← List.getD_eq_getElem?_getD]
theorem Eu {mo : Int} (hB : av B) : ∀ (L : List (List Int)) {s : St} {pos : Nat}, L ≠ [] → (∀ X ∈ L, X.length ≤ 65535) → s.kind = -1 → s.ay = 0 → s.ended = false → s.at_ = 8 * pos → (∀ i, i < (fW L).length → B.getD (pos + i) 0 = (fW L).getD i 0) → pos + (fW L).length ≤ B.length → (s.out.length : Int) + L.flatten.length ≤ mo →
    ∃ s', iz B mo s s' ∧ s'.at_ = 8 * (pos + (fW L).length) ∧ s'.out = s.out ++ L.flatten ∧ s'.ended = true := by
  intro L
  induction L with
  | nil => intro s pos h; exact (h rfl).elim
  | cons X L ih =>
    intro s pos _ hL hk hc he ha hx hp hm
    cases L with
    | nil =>
      obtain ⟨s', g, a1, a2, a3, a4, a5⟩ := uY (mo := mo) hB (.inr rfl) (hL X (List.mem_cons_self ..)) hk hc he ha hx hp (by simpa using hm)
      exact ⟨s', g, a1, by simpa using a2, a5⟩
    | cons Y L =>
      have hlen : (fW (X :: Y :: L)).length = (fY 0 X).length + (fW (Y :: L)).length := by simp [fW]
      have hfl : (X :: Y :: L).flatten.length = X.length + (Y :: L).flatten.length := by simp
      obtain ⟨s', g, a1, a2, a3, a4, a5⟩ := uY (mo := mo) hB (.inl rfl) (hL X (List.mem_cons_self ..)) hk hc he ha (fun i hi => by rw [hx i (by omega)]; exact vI _ _ _ hi) (by omega) (by omega)
      obtain ⟨s2, g2, c1, c2, c3⟩ := ih (s := s') (pos := pos + (fY 0 X).length) (by simp) (fun Z hZ => hL Z (List.mem_cons_of_mem _ hZ)) a3 a4 (by rw [a5]; rfl) a1 (fun i hi => by
        rw [show pos + (fY 0 X).length + i = pos + ((fY 0 X).length + i) by omega, hx _ (by omega)]; exact dW _ _ _) (by omega) (by rw [a2]; simp only [List.length_append]; omega)
      exact ⟨s2, g.trans g2, by rw [c1, hlen]; omega, by rw [c2, a2]; simp, c3⟩
end
theorem wm {la : Int} {X : List Int} (hla : la = 0 ∨ la = 1) (hX : X.length ≤ 65535) (h : av X) : av (fY la X) := by
  intro x hx
  unfold fY at hx
  rcases List.mem_append.1 hx with hx | hx
  · simp only [List.mem_cons, List.not_mem_nil, or_false] at hx
    rcases hx with rfl | rfl | rfl | rfl | rfl <;> omega
  · exact h x hx
theorem ru : ∀ (L : List (List Int)), (∀ X ∈ L, X.length ≤ 65535 ∧ av X) → av (fW L)
  | [], _ => fun x hx => by cases hx
  | [X], h => wm (.inr rfl) (h X (List.mem_cons_self ..)).1 (h X (List.mem_cons_self ..)).2
  | X :: Y :: L, h => fun x hx => by
    rcases List.mem_append.1 hx with hx | hx
    · exact wm (.inl rfl) (h X (List.mem_cons_self ..)).1 (h X (List.mem_cons_self ..)).2 x hx
    · exact ru (Y :: L) (fun Z hZ => h Z (List.mem_cons_of_mem _ hZ)) x hx
theorem D0 {L : List (List Int)} (hne : L ≠ []) (hL : ∀ X ∈ L, X.length ≤ 65535 ∧ av X) {t : List Int} (ht : av t) : jO (fW L ++ t) L.flatten.length (L.flatten, ((fW L).length : Int), 0) ∧ ∀ mo : Int, 0 ≤ mo → mo < L.flatten.length → jO (fW L ++ t) mo ([], 0, 6) := by
  have hB : av (fW L ++ t) := fun x hx => by
    rcases List.mem_append.1 hx with hx | hx
    · exact ru L hL x hx
    · exact ht x hx
  obtain ⟨s', g, a1, a2, a3⟩ := Eu (mo := L.flatten.length) hB L (s := start) (pos := 0) hne (fun X hX => (hL X hX).1) rfl rfl rfl rfl (fun i hi => by rw [Nat.zero_add]; exact vI _ _ _ hi) (by rw [List.length_append]; omega) (by show ((0 : Nat) : Int) + _ ≤ _; omega)
  have hr : jX (fW L ++ t) L.flatten.length start (.ok (L.flatten, (fW L).length)) := by
    have := g _ (.done a3)
    rw [a2, a1, show (8 * (0 + (fW L).length) + 7) / 8 = (fW L).length by omega, show start.out ++ L.flatten = L.flatten from rfl] at this
    exact this
  refine ⟨.inr ⟨by omega, _, hr, rfl⟩, fun mo h0 h1 => ?_⟩
  have hm := (ye (mo' := mo) hB hr (oU (by omega)) _ _ rfl).2.2 (by show ((0 : Nat) : Int) ≤ mo; omega) h1
  exact .inr ⟨h0, _, hm, rfl⟩
def JS (L : List (List Int)) : Nat → List Int
  | 0 => []
  | i + 1 => JS L i ++ fY (if i + 1 = L.length then 1 else 0) (L.getD i [])
end Go.ad
namespace Go.ad
open Go.aj Go.af
structure Bk (L : List (List Int)) (i : Nat) : Prop where
  le : i ≤ L.length
  Qa : ∀ j, j < i → (L.getD j []).length ≤ 1000
  sV : ∀ j, j < i → av (L.getD j [])
  Rx : (L.take i).flatten.length ≤ 1000 * i
  Rs : (JS L i).length ≤ 1005 * i
end Go.ad
namespace Go.aj
structure Po (bs : List Int) (i : Nat) (o : List Int) : Prop where
  len : o.length = (bs.length + 7) / 8
  sV : av o
  get : ∀ k, k < i → jf o k = bs.getD k 0
  zero : ∀ k, i ≤ k → jf o k = 0
end Go.aj
namespace Go.ad
open Go.aj Go.af
def RQ (s : Int) : Int := if 280 ≤ s then 192 + s - 280 else if 256 ≤ s then s - 256 else if 144 ≤ s then 400 + s - 144 else 48 + s
def RO (s : Int) : Nat := if 280 ≤ s then 8 else if 256 ≤ s then 7 else if 144 ≤ s then 9 else 8
structure Pq (bs o : List Int) : Prop where
  sV : av o
  len : bs.length ≤ 8 * o.length
  get : ∀ i, i < bs.length → jf o i = bs.getD i 0
section
variable {bs o u w r out : List Int} {mo s y d : Int} {z : St}
structure Rd (o : List Int) (mo : Int) (z : St) (a : Nat) (out : List Int) : Prop where
  zX : iz o mo start z
  at_ : z.at_ = a
  out : z.out = out
  kind : z.kind = 1
  ay : z.ay = 0
  ended : z.ended = false
  last : z.last = true
  lits : z.lits = fT
  eM : z.eM = lh
def Lr (d : Nat) : Nat → List Int → List Int
  | 0, l => l
  | k + 1, l => Lr d k (l ++ [l.getD (l.length - d) 0])
def jb (n d : Int) : List Int := wb fT (254 + n) ++ wb lh (d - 1)
end
def Fg (d : Int) : List Int → List Int
  | [] => []
  | m :: l => jb (3 + m % 8) d ++ Fg d l
def NJ (d : Int) : List Int → List Int → List Int
  | [], out => out
  | m :: l, out => NJ d l (Lr d.toNat (3 + m % 8).toNat out)
def Rf (head : List Int) (d : Int) (l : List Int) : List Int := lD 3 3 ++ af.bits fT head ++ Fg d l
end Go.ad
namespace Go.ad
open Go.aj Go.af
theorem kc {l : List Int} {i : Nat} (h : i < l.length) : l.take (i + 1) = l.take i ++ [l.getD i 0] := by
  rw [List.take_succ_eq_append_getElem h]
  simp [List.getD_eq_getElem?_getD, h]
def R0 (l : List Int) : Prop := ∀ x ∈ l, 0 ≤ x ∧ x ≤ 1
end Go.ad
namespace Go.ad
open Go.aj Go.af
end Go.ad
namespace Go.aQ
open Go.aj Go.af Go.ad
def x3 (x y z : Int) : Int := IntKind.u32.wrap ((BitVec.ofInt IntKind.u32.bits (IntKind.u32.wrap ((BitVec.ofInt IntKind.u32.bits (IntKind.u32.wrap (x * 2 ^ (min (16 : Int).toNat IntKind.u32.bits))) ||| BitVec.ofInt IntKind.u32.bits (IntKind.u32.wrap (y * 2 ^ (min (8 : Int).toNat IntKind.u32.bits)))).toNat : Int)) ||| BitVec.ofInt IntKind.u32.bits z).toNat : Int)
def ng (x y z : Int) : Int := (IntKind.u32.wrap (x3 x y z * 2654435761)).fdiv (2 ^ (min (19 : Int).toNat IntKind.u32.bits))
def hs (B : List Int) (a : Nat) : Int := ng (B.getD a 0) (B.getD (a + 1) 0) (B.getD (a + 2) 0)
structure Fd where
  hd : List Int
  nx : List Int
def JR (B : List Int) (f : Fd) (a : Nat) : Fd := if B.length < a + 3 then f else ⟨f.hd.set (hs B a).toNat (a : Int), f.nx.set a (f.hd.getD (hs B a).toNat 0)⟩
def zt (B : List Int) (f : Fd) (a : Nat) : Nat → Fd
  | 0 => f
  | k + 1 => JR B (zt B f a k) (a + k)
def Ak (B : List Int) (old a : Nat) : Nat → Nat → Nat
  | 0, n => n
  | f + 1, n => if a + n < B.length ∧ B.getD (old + n) 0 = B.getD (a + n) 0 then Ak B old a f (n + 1) else n
def N3 (B : List Int) (old a : Nat) : Nat := Ak B old a 258 0
def tc (B nx : List Int) (a : Nat) : Nat → Int → Int → Int → Int × Int
  | 0, _, n, cx => (n, cx)
  | t + 1, old, n, cx => if old = -1 ∨ 32768 < (a : Int) - old then (n, cx) else
    if n < (N3 B old.toNat a : Int) then tc B nx a t (nx.getD old.toNat 0) (N3 B old.toNat a) ((a : Int) - old) else tc B nx a t (nx.getD old.toNat 0) n cx
def qV (B : List Int) (f : Fd) (a : Nat) : Int × Int := if B.length < a + 3 then (0, 0) else tc B f.nx a 24 (f.hd.getD (hs B a).toNat 0) 0 0
structure dZ where
  lit : Int
  n : Int
  cx : Int
def vf (B : List Int) : Nat → Fd → Nat → List dZ
  | 0, _, _ => []
  | q + 1, f, a => if a < B.length then
      (if (qV B f a).1 < 3 then ⟨B.getD a 0, 0, 0⟩ :: vf B q (zt B f a 1) (a + 1)
       else ⟨0, (qV B f a).1, (qV B f a).2⟩ :: vf B q (zt B f a (qV B f a).1.toNat) (a + (qV B f a).1.toNat)) else []
def Qs (B : List Int) : Fd := ⟨List.replicate 8192 (-1), List.replicate B.length 0⟩
def ur (B : List Int) : List dZ := vf B B.length (Qs B) 0
structure RS (B : List Int) (old a n : Nat) : Prop where
  le : n ≤ 258
  room : a + n ≤ B.length ∨ n = 0
  same : ∀ i, i < n → B.getD (old + i) 0 = B.getD (a + i) 0
structure R3 (B : List Int) (n : Nat) (f : Fd) : Prop where
  hl : f.hd.length = 8192
  nl : f.nx.length = B.length
  h : ∀ i, i < 8192 → -1 ≤ f.hd.getD i 0 ∧ f.hd.getD i 0 < n
  x : ∀ i, i < B.length → -1 ≤ f.nx.getD i 0 ∧ (f.nx.getD i 0 < n ∨ f.nx.getD i 0 = 0)
structure Fs (B : List Int) (a : Nat) (r : Int × Int) : Prop where
  P8 : (r.1 = 0 ∧ r.2 = 0) ∨ (1 ≤ r.1 ∧ r.1 ≤ 258 ∧ 1 ≤ r.2 ∧ r.2 ≤ 32768 ∧ r.2 ≤ a ∧ a + r.1.toNat ≤ B.length ∧ ∀ i, i < r.1.toNat → B.getD (a - r.2.toNat + i) 0 = B.getD (a + i) 0)
def P0 : List dZ → List Int → List Int
  | [], o => o
  | t :: l, o => P0 l (if t.n = 0 then o ++ [t.lit] else Lr t.cx.toNat t.n.toNat o)
structure sj (t : dZ) : Prop where
  P8 : (t.n = 0 ∧ t.cx = 0 ∧ 0 ≤ t.lit ∧ t.lit < 256) ∨ (t.lit = 0 ∧ 3 ≤ t.n ∧ t.n ≤ 258 ∧ 1 ≤ t.cx ∧ t.cx ≤ 32768)
inductive tq (B : List Int) : Nat → List dZ → Prop
  | nil : tq B B.length []
  | lit {a : Nat} {l : List dZ} : a < B.length → tq B (a + 1) l → tq B a (⟨B.getD a 0, 0, 0⟩ :: l)
  | cp {a n d : Nat} {l : List dZ} : 3 ≤ n → n ≤ 258 → 1 ≤ d → d ≤ 32768 → d ≤ a → a + n ≤ B.length → (∀ i, i < n → B.getD (a - d + i) 0 = B.getD (a + i) 0) → tq B (a + n) l → tq B a (⟨0, n, d⟩ :: l)
section
variable {B nx : List Int} {a k o : Nat} {old n cx : Int}
end
end Go.aQ
namespace Go.aQ
open Go.aj Go.af Go.ad
def zK (lim x : Int) : Nat → Nat → Nat
  | 0, m => m
  | f + 1, m => if lim ≤ x / 2 ^ m then zK lim x f (m + 1) else m
def sB (lim x : Int) : Nat := zK lim x 16 0
def tP (n : Int) : Int := if n - 3 = 255 then 285 else if n - 3 < 8 then 257 + (n - 3) else 257 + 4 * (sB 8 (n - 3) : Int) + (n - 3) / 2 ^ sB 8 (n - 3)
def DR (n : Int) : Nat := if n - 3 = 255 then 0 else if n - 3 < 8 then 0 else sB 8 (n - 3)
def ES (n : Int) : Int := if n - 3 = 255 then 0 else if n - 3 < 8 then 0 else (n - 3) % 2 ^ sB 8 (n - 3)
def tR (f : Int) : Int := if f - 1 < 4 then f - 1 else 2 * (sB 4 (f - 1) : Int) + (f - 1) / 2 ^ sB 4 (f - 1)
def DE (f : Int) : Nat := if f - 1 < 4 then 0 else sB 4 (f - 1)
def EC (f : Int) : Int := if f - 1 < 4 then 0 else (f - 1) % 2 ^ sB 4 (f - 1)
structure Mr (lim x : Int) (m : Nat) : Prop where
  lt : x / 2 ^ m < lim
  ge : m = 0 ∨ lim ≤ x / 2 ^ (m - 1)
  le : m ≤ 13
def um (ls ds : List Int) (t : dZ) : List Int := if t.n = 0 then wb ls t.lit else wb ls (tP t.n) ++ lD (ES t.n) (DR t.n) ++ wb ds (tR t.cx) ++ lD (EC t.cx) (DE t.cx)
def qE (ls ds : List Int) (l : List dZ) : List Int := l.flatMap (um ls ds)
structure Fits (ls ds : List Int) (l : List dZ) : Prop where
  ok : ∀ t ∈ l, sj t
  lit : ∀ t ∈ l, t.n = 0 → t.lit < ls.length ∧ ot ls t.lit = true
  cp : ∀ t ∈ l, t.n ≠ 0 → tP t.n < ls.length ∧ ot ls (tP t.n) = true ∧ tR t.cx < ds.length ∧ ot ds (tR t.cx) = true
  end_ : (256 : Int) < ls.length ∧ ot ls 256 = true
end Go.aQ
namespace Go.lA
abbrev Pk := Int × List Int
def NQ : List Pk → List Pk
  | a :: b :: l => (a.1 + b.1, a.2 ++ b.2) :: NQ l
  | _ => []
def sy (l : List Pk) (m : Nat) : List Int := (l.take m).flatMap (·.2)
def K1 : List Pk → List Pk → List Pk
  | [], P => P
  | A, [] => A
  | a :: A, b :: P => if a.1 ≤ b.1 then a :: K1 A (b :: P) else b :: K1 (a :: A) P
termination_by A P => A.length + P.length
abbrev qp (l : List Pk) : Prop := l.Pairwise (fun x y => x.1 ≤ y.1)
structure SS (l l' : List Pk) : Prop where
  Qp : qp l'
  RI : ∀ c, l'.filter (fun x => decide (x.1 = c)) = l.filter (fun x => decide (x.1 = c))
end Go.lA
namespace Go.lA
def lv (A : List Pk) : Nat → List Pk
  | 0 => []
  | j + 1 => K1 A (NQ (lv A j))
def sm (A : List Pk) (i : Nat) : Int := (A.getD i (0, [])).2.headD 0
structure Lf (A : List Pk) : Prop where
  Qp : qp A
  one : ∀ i, i < A.length → (A.getD i (0, [])).2 = [sm A i]
  inj : ∀ i j, i < A.length → j < A.length → sm A i = sm A j → i = j
  pos : ∀ x ∈ A, 0 < x.1
def Hv (A : List Pk) (e : Pk) : Prop := 0 ≤ e.1 ∧ ∀ i, i < A.length → sm A i ∈ e.2 → (A.getD i (0, [])).1 ≤ e.1
def ct (A : List Pk) (j m i : Nat) : Nat := (sy (lv A j) m).count (sm A i)
def P1 (f : Nat → Nat) : Nat → Nat
  | 0 => 0
  | n + 1 => P1 f n + f n
end Go.lA
namespace Go.lA
open Go.af
def KY (s : Nat → Int) (v : Nat → Int) (base : List Int) : Nat → List Int
  | 0 => base
  | k + 1 => (KY s v base k).set (s k).toNat (v k)
def cs (A : List Pk) (cY : Nat) : List Int := (List.range A.length).map (fun i => (ct A cY (2 * A.length - 2) i : Int))
structure Ln (A : List Pk) (cY : Nat) (vs : List Int) : Prop where
  perm : vs.Perm (cs A cY)
  down : vs.Pairwise (fun x y => y ≤ x)
def out (A : List Pk) (vs : List Int) (L : Nat) : List Int := KY (sm A) (fun i => vs.getD i 0) (List.replicate L 0) A.length
structure Good (A : List Pk) (cY L : Nat) (o : List Int) : Prop where
  len : o.length = L
  leaf : ∀ i, i < A.length → 1 ≤ o.getD (sm A i).toNat 0 ∧ o.getD (sm A i).toNat 0 ≤ cY
  rest : ∀ x, (∀ i, i < A.length → (sm A i).toNat ≠ x) → o.getD x 0 = 0
  down : ∀ i j, i ≤ j → j < A.length → o.getD (sm A j).toNat 0 ≤ o.getD (sm A i).toNat 0
  code : bU o = 0
end Go.lA
namespace Go.lA
open Go.af
def JI (fr : List Int) (k : Nat) : List Pk := ((List.range k).filter (fun i => decide (0 < fr.getD i 0))).map (fun i : Nat => (fr.getD i 0, [(i : Int)]))
def cO (L : Nat) (X : List Int) : List Int := (List.range L).map (fun k : Nat => (X.count (k : Int) : Int))
structure MU (fr : List Int) (cY : Nat) (o : List Int) : Prop where
  len : o.length = fr.length
  code : bU o = 0
  pos : ∀ i, i < fr.length → 0 < fr.getD i 0 → 1 ≤ o.getD i 0 ∧ o.getD i 0 ≤ cY
  zero : ∀ i, i < fr.length → ¬ 0 < fr.getD i 0 → o.getD i 0 = 0
  one : (JI fr fr.length).length = 1 → ∀ i, o.getD i 0 ≤ 1
  down : ∀ i k, i < fr.length → k < fr.length → fr.getD k 0 < fr.getD i 0 → 0 < fr.getD k 0 → o.getD i 0 ≤ o.getD k 0
end Go.lA
namespace Go.lA
open Go.af
def Me (x : Pk) : List Pk → List Pk
  | [] => [x]
  | y :: ys => if x.1 ≤ y.1 then x :: y :: ys else y :: Me x ys
def Ek : List Pk → List Pk
  | [] => []
  | x :: xs => Me x (Ek xs)
def tQ (fr : List Int) (cY : Nat) : List Int :=
  match JI fr fr.length with
  | [] => List.replicate fr.length 0
  | [x] => (List.replicate fr.length 0).set (x.2.headD 0).toNat 1
  | l => out (Ek l) ((cs (Ek l) cY).mergeSort fun x y => decide (x ≤ y)).reverse fr.length
structure Q1 (fr : List Int) (cY : Nat) (o : List Int) : Prop extends MU fr cY o where
  CL : o = tQ fr cY
end Go.lA
namespace Go.aQ
open Go.aj Go.af Go.ad
def FJ (fr : List Int) : Nat → Int
  | 0 => 0
  | k + 1 => if FJ fr k < fr.getD k 0 then fr.getD k 0 else FJ fr k
def Kz (x : Int) : Nat → Nat → Nat
  | 0, m => m
  | f + 1, m => if 1048576 < x / 2 ^ m then Kz x f (m + 1) else m
def dn (fr : List Int) : Nat := Kz (FJ fr fr.length) 16 0
def rr (d : Nat) (x : Int) : Int := if 0 < x then (if 1 < x / 2 ^ d then x / 2 ^ d else 1) else x
def DO (fr : List Int) (d : Nat) : Nat → List Int
  | 0 => fr
  | k + 1 => (DO fr d k).set k (rr d (fr.getD k 0))
def w9 (fr : List Int) : List Int := DO fr (dn fr) fr.length
def vq (l : List Int) (s : Int) : List Int := l.set s.toNat (l.getD s.toNat 0 + 1)
def Pm (t : dZ) : Int := if t.n = 0 then t.lit else tP t.n
def vC : List dZ → List Int → List Int
  | [], a => a
  | t :: l, a => vC l (vq a (Pm t))
def Dq : List dZ → List Int → List Int
  | [], b => b
  | t :: l, b => Dq l (if t.n = 0 then b else vq b (tR t.cx))
def N5 : List Int := (List.replicate 286 0).set 256 1
def Oi : List Int := List.replicate 30 0
def fA (l : List dZ) : List Int := w9 (vC l N5)
def fB (l : List dZ) : List Int := w9 (Dq l Oi)
end Go.aQ
namespace Go.aQ
open Go.aj Go.af Go.ad
def jj : Nat → List Int → List (List Int)
  | 0, Z => [Z]
  | f + 1, Z => if Z.length ≤ 65535 then [Z] else Z.take 65535 :: jj f (Z.drop 65535)
theorem xa : ∀ (f : Nat) (Z : List Int), ∃ X L, jj f Z = X :: L
  | 0, Z => ⟨Z, [], rfl⟩
  | f + 1, Z => by
    unfold jj
    split
    · exact ⟨_, _, rfl⟩
    · exact ⟨_, _, rfl⟩
theorem rW {Z : List Int} (h : Z.length ≤ 65535) : ∀ f, jj f Z = [Z]
  | 0 => rfl
  | f + 1 => if_pos h
theorem rA {Z : List Int} (h : 65535 < Z.length) (f : Nat) : fW (jj (f + 1) Z) = fY 0 (Z.take 65535) ++ fW (jj f (Z.drop 65535)) := by
  have h0 : jj (f + 1) Z = Z.take 65535 :: jj f (Z.drop 65535) := if_neg (by omega)
  rw [h0]
  obtain ⟨X, L, e⟩ := xa f (Z.drop 65535)
  rw [e]; rfl
theorem sg : ∀ (f : Nat) (Z : List Int), (jj f Z).flatten = Z
  | 0, Z => by simp [jj]
  | f + 1, Z => by
    unfold jj
    split
    · simp
    · rw [List.flatten_cons, sg f, List.take_append_drop]
theorem pq : ∀ (f : Nat) (Z : List Int), Z.length ≤ 65535 * (f + 1) → ∀ X ∈ jj f Z, X.length ≤ 65535
  | 0, Z, h, X, hX => by simp only [jj, List.mem_singleton] at hX; subst hX; omega
  | f + 1, Z, h, X, hX => by
    unfold jj at hX
    split at hX
    · rw [List.mem_singleton.1 hX]; assumption
    · rcases List.mem_cons.1 hX with rfl | hX
      · rw [List.length_take]; omega
      · exact pq f _ (by rw [List.length_drop]; omega) X hX
theorem HB : ∀ (f : Nat) (Z : List Int), Z.length ≤ 65535 * (f + 1) → (fW (jj f Z)).length ≤ Z.length + 5 * (Z.length / 65535 + 1)
  | 0, Z, h => by show (fY 1 Z).length ≤ _; rw [kQ]; omega
  | f + 1, Z, h => by
    rcases Nat.lt_or_ge 65535 Z.length with h1 | h1
    · have ih := HB f (Z.drop 65535) (by rw [List.length_drop]; omega)
      rw [rA h1, List.length_append, kQ, List.length_take]
      rw [List.length_drop] at ih
      omega
    · rw [rW h1]; show (fY 1 Z).length ≤ _; rw [kQ]; omega
theorem wS : ∀ (f : Nat) (Z : List Int), Z.length ≤ 65535 * (f + 1) → (fW (jj f Z)).length = Z.length + 5 * ((Z.length - 1) / 65535 + 1)
  | 0, Z, h => by show (fY 1 Z).length = _; rw [kQ]; omega
  | f + 1, Z, h => by
    rcases Nat.lt_or_ge 65535 Z.length with h1 | h1
    · have ih := wS f (Z.drop 65535) (by rw [List.length_drop]; omega)
      rw [rA h1, List.length_append, kQ, List.length_take]
      rw [List.length_drop] at ih
      omega
    · rw [rW h1]; show (fY 1 Z).length = _; rw [kQ]; omega
def iH (B : List Int) : List Int := fW (jj 64 B)
theorem LN (B : List Int) : [] ++ fW (jj 64 B) = iH B := rfl
theorem EA {O Z B : List Int} {f : Nat} (h : O ++ fW (jj f Z) = iH B) (hZ : Z.length ≤ 65535) : O ++ [1, (Z.length : Int) % 256, (Z.length : Int) / 256, 255 - (Z.length : Int) % 256, 255 - (Z.length : Int) / 256] ++ Z = iH B := by
  rw [← h, rW hZ, List.append_assoc]; rfl
theorem DP {O Z B : List Int} {f : Nat} (h : O ++ fW (jj (f + 1) Z) = iH B) (hZ : 65535 < Z.length) : O ++ [0, (65535 : Int) % 256, (65535 : Int) / 256, 255 - (65535 : Int) % 256, 255 - (65535 : Int) / 256] ++ Z.take 65535 ++ fW (jj f (Z.drop 65535)) = iH B := by
  rw [← h, rA hZ]
  have : (Z.take 65535).length = 65535 := by rw [List.length_take]; omega
  unfold fY
  rw [this]
  simp only [List.append_assoc]
  rfl
theorem uk {B : List Int} (h : B.length ≤ 4194304) : (iH B).length = B.length + 5 * ((B.length - 1) / 65535 + 1) := wS 64 B (by omega)
theorem GP {B t : List Int} (h : B.length ≤ 4194304) (hB : av B) (ht : av t) : jO (iH B ++ t) B.length (B, ((iH B).length : Int), 0) ∧ ∀ mo : Int, 0 ≤ mo → mo < B.length → jO (iH B ++ t) mo ([], 0, 6) := by
  obtain ⟨X, L, e⟩ := xa 64 B
  have h1 := D0 (L := jj 64 B) (by rw [e]; simp) (fun X hX => ⟨pq 64 B (by omega) X hX, fun x hx => hB x (by
    have := sg 64 B
    rw [← this]; exact List.mem_flatten.2 ⟨X, hX, hx⟩)⟩) ht
  rw [sg] at h1
  exact h1
end Go.aQ
namespace Go.lA
open Go.af
end Go.lA
namespace Go.aQ
open Go.aj Go.af Go.ad
def nB (bs : List Int) (a : Nat) : Nat → Int
  | 0 => 0
  | n + 1 => nB bs a n + bs.getD (a + n) 0 * 2 ^ n
def FX (bs : List Int) : List Int := (List.range ((bs.length + 7) / 8)).map fun j => nB bs (8 * j) 8
def QU (l : List dZ) : List Int := lD 1 1 ++ lD 1 2 ++ (qE fT lh l ++ wb fT 256)
def I1 (l : List dZ) : List Int := FX (QU l)
def dA (l : List dZ) : List Int := lA.tQ (fA l) 15
def dB (l : List dZ) : List Int := lA.tQ (fB l) 15
def EI : List Int → List Int → List Int
  | [], f => f
  | n :: l, f => EI l (vq f n)
def D4 (l : List dZ) : List Int := dA l ++ dB l
def NT : List Int := List.replicate 19 0
def N9 (l : List dZ) : List Int := EI (D4 l) NT
def dF (l : List dZ) : List Int := lA.tQ (N9 l) 7
def dN (f : List Int) (k : Nat) : List Int := (ml.take k).flatMap fun i => lD (f.getD i.toNat 0) 3
def N4 : List Int := lD 1 1 ++ lD 2 2 ++ lD 29 5 ++ lD 29 5 ++ lD 15 4
def QH (l : List dZ) : List Int := N4 ++ dN (dF l) 19 ++ af.bits (dF l) (D4 l) ++ (qE (dA l) (dB l) l ++ wb (dA l) 256)
def LM (l : List dZ) : List Int := FX (QH l)
end Go.aQ
namespace Go.aQ
open Go.aj Go.af Go.ad
def Oa {α : Type} (a b c : α) : Nat → α
  | 0 => a
  | 1 => b
  | _ => c
def bi (n : Nat → Nat) : Nat → Nat
  | 0 => 0
  | k + 1 => if n (k + 1) < n (bi n k) then k + 1 else bi n k
def sN (B : List Int) : Nat → Nat := Oa (iH B).length (I1 (ur B)).length (LM (ur B)).length
def nU (B : List Int) : List Int := Oa (iH B) (I1 (ur B)) (LM (ur B)) (bi (sN B) 2)
end Go.aQ
namespace Go.aQ
open Go.aj Go.af Go.ad
end Go.aQ
namespace Go.aQ
open Go.aj Go.af Go.ad
def AR (n : Int) : Int := if n < 0 then 0 else n
def cY (n : Int) : Int := if 0 < AR n % 65535 then AR n + 5 * (AR n / 65535 + 1) + 5 else AR n + 5 * (AR n / 65535) + 5
end Go.aQ
namespace Go.aQ
open Go.aj Go.af Go.ad
structure Rq (ls ds o : List Int) (mo : Int) (z : St) (a : Nat) (out : List Int) : Prop where
  zX : iz o mo ad.start z
  at_ : z.at_ = a
  out : z.out = out
  k1 : ¬ z.kind = -1
  k2 : ¬ z.kind = 0
  ay : z.ay = 0
  ended : z.ended = false
  last : z.last = true
  lits : z.lits = ls
  eM : z.eM = ds
section
variable {ls ds bs o u r out : List Int} {mo y : Int} {z : St} {t : dZ}
end
end Go.aQ
namespace Go.aQ
open Go.aj Go.af Go.ad
end Go.aQ
namespace Go.aQ
open Go.aj Go.af Go.ad
section
variable {B : List Int} {b : Int}
def RU (B : List Int) (b : Int) : Prop := ∀ i, i < B.length → B.getD i 0 = b
end
end Go.aQ
namespace Go.aQ
open Go.aj Go.af Go.ad
def R6 (x : Int) : Int := IntKind.u32.wrap (IntKind.u32.wrap (x * 1664525) + 1013904223)
def RY (x : Int) : Int := IntKind.u8.wrap (x.fdiv (2 ^ (min (24 : Int).toNat IntKind.u32.bits)))
structure Gd (B : List Int) : Prop where
  zb : (nU B).length ≤ 30000000
  sV : av (nU B)
  res : jO (nU B) (B.length : Int) (B, ((nU B).length : Int), 0)
  cY : ((nU B).length : Int) ≤ (B.length : Int) + 5 * (((B.length : Int) + 65534) / 65535) + 5
theorem av.snoc {l : List Int} {y : Int} (h : av l) (hy : 0 ≤ y ∧ y < 256) : av (l ++ [y]) := fun x hx => by
  rcases List.mem_append.1 hx with hx | hx
  · exact h x hx
  · rw [List.mem_singleton.1 hx]; exact hy
end Go.aQ
namespace Go.aQ
open Go.aj
theorem av.app {a b : List Int} (h : av a) (k : av b) : av (a ++ b) := fun x hx => by
  rcases List.mem_append.1 hx with hx | hx
  · exact h x hx
  · exact k x hx
end Go.aQ
namespace Go.aQ
open Go.aj Go.ad
theorem jx : av [] := fun x hx => by cases hx
end Go.aQ
namespace Go.aQ
end Go.aQ
namespace Go.aL
open Go.aj Go.ad
theorem rK {x : Int} (h : 0 ≤ x ∧ x < 256) : ∃ k : Fin 256, x = ((k.val : Nat) : Int) := ⟨⟨x.toNat, by omega⟩, by simp only; omega⟩
theorem Bm : ∀ k : Fin 256, IntKind.i64.wrap ((BitVec.ofInt IntKind.i64.bits ((k.val : Nat) : Int) &&& BitVec.ofInt IntKind.i64.bits 15).toNat : Int) = ((k.val : Nat) : Int) % 16 := by decide +kernel
theorem Cx : ∀ k : Fin 256, IntKind.i64.wrap ((BitVec.ofInt IntKind.i64.bits ((k.val : Nat) : Int) &&& BitVec.ofInt IntKind.i64.bits 32).toNat : Int) = 32 * (((k.val : Nat) : Int) / 32 % 2) := by decide +kernel
theorem sS {x : Int} (h : 0 ≤ x ∧ x < 256) : IntKind.i64.wrap ((BitVec.ofInt IntKind.i64.bits x &&& BitVec.ofInt IntKind.i64.bits 15).toNat : Int) = x % 16 := by obtain ⟨k, rfl⟩ := rK h; exact Bm k
theorem E8 {x : Int} (h : 0 ≤ x ∧ x < 256) : IntKind.i64.wrap ((BitVec.ofInt IntKind.i64.bits x &&& BitVec.ofInt IntKind.i64.bits 32).toNat : Int) = 32 * (x / 32 % 2) := by obtain ⟨k, rfl⟩ := rK h; exact Cx k
theorem Gb {x : Int} (h : 0 ≤ x) : x.fdiv (2 ^ (min (4 : Int).toNat IntKind.i64.bits)) = x / 16 := by rw [Int.fdiv_eq_ediv_of_nonneg _ (by decide)]; rfl
theorem Bc {a b n : Nat} (hb : b < 2 ^ n) : (a * 2 ^ n) ||| b = a * 2 ^ n + b := by
  have := Nat.shiftLeft_add_eq_or_of_lt hb a
  rw [Nat.shiftLeft_eq] at this
  exact this.symm
theorem wrap32 {n : Int} (h1 : 0 ≤ n) (h2 : n < 4294967296) : IntKind.u32.wrap n = n := by
  have e : IntKind.u32.wrap n = n % 4294967296 := rfl
  rw [e]; omega
theorem wrap64 {n : Int} (h1 : 0 ≤ n) (h2 : n < 4294967296) : IntKind.i64.wrap n = n := Go.Sl.gR (by omega) (by omega)
theorem Iw {x y u : Int} {n : Nat} (hx : x = u * 2 ^ n) (hu : 0 ≤ u) (hy : 0 ≤ y ∧ y < 2 ^ n) (h : x + y < 4294967296) : IntKind.u32.wrap ((BitVec.ofInt IntKind.u32.bits x ||| BitVec.ofInt IntKind.u32.bits y).toNat : Int) = x + y := by
  obtain ⟨a, rfl⟩ : ∃ a : Nat, u = (a : Int) := ⟨u.toNat, by omega⟩
  obtain ⟨b, rfl⟩ : ∃ b : Nat, y = (b : Int) := ⟨y.toNat, by omega⟩
  have e : IntKind.u32.bits = 32 := rfl
  have hb : b < 2 ^ n := by have := hy.2; exact_mod_cast this
  have hx2 : x = ((a * 2 ^ n : Nat) : Int) := by rw [hx]; push_cast; rfl
  subst hx2
  rw [e, BitVec.toNat_or, eC, eC, Nat.mod_eq_of_lt (by omega), Nat.mod_eq_of_lt (by omega), Bc hb, wrap32 (by omega) (by omega)]
  omega
theorem qh {x y u : Int} {n : Nat} (hx : x = u * 2 ^ n) (hu : 0 ≤ u) (hy : 0 ≤ y ∧ y < 2 ^ n) (h : x + y < 4294967296) : IntKind.i64.wrap ((BitVec.ofInt IntKind.i64.bits x ||| BitVec.ofInt IntKind.i64.bits y).toNat : Int) = x + y := by
  obtain ⟨a, rfl⟩ : ∃ a : Nat, u = (a : Int) := ⟨u.toNat, by omega⟩
  obtain ⟨b, rfl⟩ : ∃ b : Nat, y = (b : Int) := ⟨y.toNat, by omega⟩
  have e : IntKind.i64.bits = 64 := rfl
  have hb : b < 2 ^ n := by have := hy.2; exact_mod_cast this
  have hx2 : x = ((a * 2 ^ n : Nat) : Int) := by rw [hx]; push_cast; rfl
  subst hx2
  rw [e, BitVec.toNat_or, eC, eC, Nat.mod_eq_of_lt (by omega), Nat.mod_eq_of_lt (by omega), Bc hb, wrap64 (by omega) (by omega)]
  omega
theorem w7 {x r : Int} {n : Nat} {d : Int} (hd : d = (n : Int)) (hn : n ≤ 32) (hr : r = x * 2 ^ n) (h0 : 0 ≤ r) (h1 : r < 4294967296) : IntKind.i64.wrap (x * 2 ^ (min d.toNat IntKind.i64.bits)) = r := by
  have e : min d.toNat IntKind.i64.bits = n := by
    have : IntKind.i64.bits = 64 := rfl
    omega
  rw [e, ← hr]; exact wrap64 h0 h1
theorem IS {x r : Int} {n : Nat} {d : Int} (hd : d = (n : Int)) (hn : n ≤ 32) (hr : r = x * 2 ^ n) (h0 : 0 ≤ r) (h1 : r < 4294967296) : IntKind.u32.wrap (x * 2 ^ (min d.toNat IntKind.u32.bits)) = r := by
  have e : min d.toNat IntKind.u32.bits = n := by
    have : IntKind.u32.bits = 32 := rfl
    omega
  rw [e, ← hr]; exact wrap32 h0 h1
theorem zY {x : Int} {n : Nat} {d : Int} (hd : d = (n : Int)) (hn : n ≤ 32) : x.fdiv (2 ^ (min d.toNat IntKind.u32.bits)) = x / 2 ^ n := by
  have e : min d.toNat IntKind.u32.bits = n := by
    have : IntKind.u32.bits = 32 := rfl
    omega
  rw [e, Int.fdiv_eq_ediv_of_nonneg _ (Int.le_of_lt (Int.pow_pos (by decide)))]
def ph (s : Int × Int) (c : Int) : Int × Int := ((s.1 + c) % 65521, (s.2 + (s.1 + c) % 65521) % 65521)
def fg (l : List Int) : Int × Int := l.foldl ph (1, 0)
theorem rb : fg [] = (1, 0) := rfl
theorem Ej (l : List Int) (c : Int) : fg (l ++ [c]) = ph (fg l) c := by simp [fg]
theorem oP {l : List Int} {i : Nat} (h : i < l.length) : fg (l.take (i + 1)) = ph (fg (l.take i)) (l.getD i 0) := by rw [ad.kc h, Ej]
theorem Jq (s : Int × Int) (c : Int) : (0 ≤ (ph s c).1 ∧ (ph s c).1 < 65521) ∧ 0 ≤ (ph s c).2 ∧ (ph s c).2 < 65521 := by unfold ph; simp only; omega
theorem HR (l : List Int) : ∀ s : Int × Int, ((0 ≤ s.1 ∧ s.1 < 65521) ∧ 0 ≤ s.2 ∧ s.2 < 65521) → (0 ≤ (l.foldl ph s).1 ∧ (l.foldl ph s).1 < 65521) ∧ 0 ≤ (l.foldl ph s).2 ∧ (l.foldl ph s).2 < 65521 := by
  induction l with
  | nil => exact fun s h => h
  | cons a l ih => exact fun s h => ih _ (Jq s a)
theorem pI (l : List Int) : (0 ≤ (fg l).1 ∧ (fg l).1 < 65521) ∧ 0 ≤ (fg l).2 ∧ (fg l).2 < 65521 := HR l _ (by decide)
def gb (l : List Int) : Int := (fg l).2 * 65536 + (fg l).1
theorem wX (l : List Int) : 0 ≤ gb l ∧ gb l < 4294967296 := by have := pI l; unfold gb; omega
def kF (l : List Int) : List Int := [gb l / 16777216, gb l / 65536 % 256, gb l / 256 % 256, gb l % 256]
theorem tE (l : List Int) : (kF l).length = 4 := rfl
theorem q9 (l : List Int) : av (kF l) := fun x hx => by
  have := wX l
  simp only [kF, List.mem_cons, List.not_mem_nil, or_false] at hx
  rcases hx with rfl | rfl | rfl | rfl <;> omega
def dU (l : List Int) : Int := l.getD 0 0 * 16777216 + l.getD 1 0 * 65536 + l.getD 2 0 * 256 + l.getD 3 0
def Hd (a b : Int) : Prop := a % 16 = 8 ∧ a / 16 ≤ 7 ∧ (a * 256 + b) % 31 = 0 ∧ 32 * (b / 32 % 2) = 0
instance (a b : Int) : Decidable (Hd a b) := by unfold Hd; infer_instance
theorem Nt (a b : Int) : ¬ a % 16 = 8 ∨ (a % 16 = 8 ∧ ¬ a / 16 ≤ 7) ∨ (a % 16 = 8 ∧ a / 16 ≤ 7 ∧ ¬ (a * 256 + b) % 31 = 0) ∨ (a % 16 = 8 ∧ a / 16 ≤ 7 ∧ (a * 256 + b) % 31 = 0 ∧ ¬ 32 * (b / 32 % 2) = 0) ∨ (a % 16 = 8 ∧ a / 16 ≤ 7 ∧ (a * 256 + b) % 31 = 0 ∧ 32 * (b / 32 % 2) = 0) := by omega
def fin (D : List Int) (r : List Int × Int × Int) : List Int × Int :=
  if ¬ r.2.2 = 0 then ([], r.2.2) else if D.length - r.2.1.toNat < 4 then ([], 2) else if 4 < D.length - r.2.1.toNat then ([], 4) else if D.drop r.2.1.toNat = kF r.1 then (r.1, 0) else ([], 5)
def nZ (B : List Int) (mo : Int) (q : List Int × Int) : Prop :=
  (B.length < 6 ∧ q = ([], 2)) ∨ (6 ≤ B.length ∧ ¬ Hd (B.getD 0 0) (B.getD 1 0) ∧ q = ([], 4)) ∨ (6 ≤ B.length ∧ Hd (B.getD 0 0) (B.getD 1 0) ∧ ∃ r, jO (B.drop 2) mo r ∧ q = fin (B.drop 2) r)
theorem ek {B : List Int} (h : av B) (n : Nat) : av (B.drop n) := fun x hx => h x (List.mem_of_mem_drop hx)
theorem L4 {B : List Int} {mo : Int} (hB : av B) {q : List Int × Int × Int} (h : jO B mo q) : av q.1 ∧ 0 ≤ q.2.1 ∧ q.2.1 ≤ B.length ∧ (q.1 = [] ∨ (q.1.length : Int) ≤ mo) := by
  rcases h with ⟨_, rfl⟩ | ⟨h0, o, ho, rfl⟩
  · exact ⟨fun x hx => by (cases hx), by decide, by simp, .inl rfl⟩
  · cases o with
    | error e => exact ⟨fun x hx => by (cases hx), by simp [Ou], by simp [Ou], .inl rfl⟩
    | ok p =>
      obtain ⟨x, n⟩ := p
      obtain ⟨h1, h2, h3⟩ := CI hB ho (oU (by omega)) x n rfl
      exact ⟨h3, by simp [Ou], by simp only [Ou]; omega, .inr h1⟩
end Go.aL
namespace Go.aL
open Go.aj Go.ad Go.aQ
theorem nZ.ways {B : List Int} {mo : Int} {q : List Int × Int} (hB : av B) (hm : mo < 500000000) (h : nZ B mo q) :
    (B.length < 6 ∧ q = ([], 2)) ∨ (6 ≤ B.length ∧ ¬ Hd (B.getD 0 0) (B.getD 1 0) ∧ q = ([], 4)) ∨
    (∃ e, 6 ≤ B.length ∧ Hd (B.getD 0 0) (B.getD 1 0) ∧ jO (B.drop 2) mo ([], ((0 : Nat) : Int), e) ∧ ¬ e = 0 ∧ q = ([], e)) ∨
    (∃ (x : List Int) (n : Nat), 6 ≤ B.length ∧ Hd (B.getD 0 0) (B.getD 1 0) ∧ jO (B.drop 2) mo (x, (n : Int), 0) ∧ av x ∧ x.length < 500000000 ∧ n ≤ B.length - 2 ∧ B.length - (2 + n) < 4 ∧ q = ([], 2)) ∨
    (∃ (x : List Int) (n : Nat), 6 ≤ B.length ∧ Hd (B.getD 0 0) (B.getD 1 0) ∧ jO (B.drop 2) mo (x, (n : Int), 0) ∧ av x ∧ x.length < 500000000 ∧ n ≤ B.length - 2 ∧ 4 < B.length - (2 + n) ∧ q = ([], 4)) ∨
    (∃ (x : List Int) (n : Nat), 6 ≤ B.length ∧ Hd (B.getD 0 0) (B.getD 1 0) ∧ jO (B.drop 2) mo (x, (n : Int), 0) ∧ av x ∧ x.length < 500000000 ∧ n ≤ B.length - 2 ∧ B.length - (2 + n) = 4 ∧ ¬ B.drop (2 + n) = kF x ∧ q = ([], 5)) ∨
    (∃ (x : List Int) (n : Nat), 6 ≤ B.length ∧ Hd (B.getD 0 0) (B.getD 1 0) ∧ jO (B.drop 2) mo (x, (n : Int), 0) ∧ av x ∧ x.length < 500000000 ∧ n ≤ B.length - 2 ∧ B.length - (2 + n) = 4 ∧ B.drop (2 + n) = kF x ∧ q = (x, 0)) := by
  rcases h with h | h | ⟨h6, hh, ⟨x, n, e⟩, hr, hq⟩
  · exact .inl h
  · exact .inr (.inl h)
  · obtain ⟨i1, i2, i3, i4⟩ := L4 (ek hB 2) hr
    simp only [List.length_drop] at i1 i2 i3 i4
    have hxl : x.length < 500000000 := by
      rcases i4 with h | h
      · rw [h]; decide
      · omega
    have hez : ¬ e = 0 → x = [] ∧ n = 0 := fun he => by
      rcases hr with ⟨_, h⟩ | ⟨_, o, _, h⟩
      · cases h; exact ⟨rfl, rfl⟩
      · cases o
        · cases h; exact ⟨rfl, rfl⟩
        · cases h; exact absurd rfl he
    obtain ⟨k, rfl⟩ : ∃ k : Nat, n = (k : Int) := ⟨n.toNat, by omega⟩
    unfold fin at hq
    simp only [List.length_drop, List.drop_drop, Int.toNat_natCast] at hq
    split at hq
    · rename_i h1
      obtain ⟨rfl, h2⟩ := hez h1
      obtain rfl : k = 0 := by omega
      exact .inr (.inr (.inl ⟨_, h6, hh, hr, h1, hq⟩))
    · rename_i h1
      obtain rfl : e = 0 := by omega
      split at hq
      · rename_i h2; exact .inr (.inr (.inr (.inl ⟨_, _, h6, hh, hr, i1, hxl, by omega, by omega, hq⟩)))
      · split at hq
        · rename_i h2 h3; exact .inr (.inr (.inr (.inr (.inl ⟨_, _, h6, hh, hr, i1, hxl, by omega, by omega, hq⟩))))
        · split at hq
          · rename_i h2 h3 h4; exact .inr (.inr (.inr (.inr (.inr (.inr ⟨_, _, h6, hh, hr, i1, hxl, by omega, by omega, h4, hq⟩)))))
          · rename_i h2 h3 h4; exact .inr (.inr (.inr (.inr (.inr (.inl ⟨_, _, h6, hh, hr, i1, hxl, by omega, by omega, h4, hq⟩)))))
theorem nZ.O2 {B : List Int} {mo : Int} {q : List Int × Int} (hB : av B) (hm : mo < 500000000) (h : nZ B mo q) :
    (B.length < 6 ∧ q = ([], 2)) ∨ (6 ≤ B.length ∧ ¬ Hd (B.getD 0 0) (B.getD 1 0) ∧ q = ([], 4)) ∨
    (∃ (x : List Int) (n : Nat) (e : Int), 6 ≤ B.length ∧ Hd (B.getD 0 0) (B.getD 1 0) ∧ jO (B.drop 2) mo (x, (n : Int), e) ∧ av x ∧ x.length < 500000000 ∧ n ≤ B.length - 2 ∧
      ((¬ e = 0 ∧ q = ([], e)) ∨ (e = 0 ∧ B.length - (2 + n) < 4 ∧ q = ([], 2)) ∨ (e = 0 ∧ 4 < B.length - (2 + n) ∧ q = ([], 4)) ∨ (e = 0 ∧ B.length - (2 + n) = 4 ∧ ¬ B.drop (2 + n) = kF x ∧ q = ([], 5)) ∨ (e = 0 ∧ B.length - (2 + n) = 4 ∧ B.drop (2 + n) = kF x ∧ q = (x, 0)))) := by
  rcases h.ways hB hm with h | h | ⟨e, a, b, c, d, r⟩ | ⟨x, n, a, b, c, d, f, g, r⟩ | ⟨x, n, a, b, c, d, f, g, r⟩ | ⟨x, n, a, b, c, d, f, g, r⟩ | ⟨x, n, a, b, c, d, f, g, r⟩
  · exact .inl h
  · exact .inr (.inl h)
  · exact .inr (.inr ⟨[], 0, e, a, b, c, fun x hx => (by cases hx), by decide, by omega, .inl ⟨d, r⟩⟩)
  · exact .inr (.inr ⟨x, n, 0, a, b, c, d, f, g, .inr (.inl ⟨rfl, r⟩)⟩)
  · exact .inr (.inr ⟨x, n, 0, a, b, c, d, f, g, .inr (.inr (.inl ⟨rfl, r⟩))⟩)
  · exact .inr (.inr ⟨x, n, 0, a, b, c, d, f, g, .inr (.inr (.inr (.inl ⟨rfl, r⟩)))⟩)
  · exact .inr (.inr ⟨x, n, 0, a, b, c, d, f, g, .inr (.inr (.inr (.inr ⟨rfl, r⟩)))⟩)
theorem aV {l : List Int} (h : av l) : ∀ x ∈ l, 0 ≤ x ∧ x < 256 := h
def zS (B : List Int) : List Int := [120, 1] ++ nU B ++ kF B
theorem r9 {a : Int} {l : List Int} (h : 0 ≤ a ∧ a < 256) (k : av l) : av (a :: l) := fun x hx => by
  rcases List.mem_cons.1 hx with rfl | hx
  · exact h
  · exact k x hx
theorem MW : Hd 120 1 := by unfold Hd; decide
end Go.aL
namespace Go.aa
open Go.aj
def eB (a b : Int) : Int := ((a.toNat ^^^ b.toNat : Nat) : Int)
theorem pU {a b : Int} {n : Nat} (ha : 0 ≤ a ∧ a < 2 ^ n) (hb : 0 ≤ b ∧ b < 2 ^ n) : 0 ≤ eB a b ∧ eB a b < 2 ^ n := by
  have h1 : a.toNat < 2 ^ n := by have : ((a.toNat : Nat) : Int) < ((2 ^ n : Nat) : Int) := by push_cast; omega
                                  omega
  have h2 : b.toNat < 2 ^ n := by have : ((b.toNat : Nat) : Int) < ((2 ^ n : Nat) : Int) := by push_cast; omega
                                  omega
  have h := Nat.xor_lt_two_pow h1 h2
  refine ⟨Int.natCast_nonneg _, ?_⟩
  have : ((a.toNat ^^^ b.toNat : Nat) : Int) < ((2 ^ n : Nat) : Int) := by omega
  simpa [eB] using this
theorem u4 {a b : Int} (ha : 0 ≤ a ∧ a < 4294967296) (hb : 0 ≤ b ∧ b < 4294967296) : IntKind.u32.wrap ((BitVec.ofInt IntKind.u32.bits a ^^^ BitVec.ofInt IntKind.u32.bits b).toNat : Int) = eB a b := by
  obtain ⟨x, rfl⟩ : ∃ x : Nat, a = (x : Int) := ⟨a.toNat, by omega⟩
  obtain ⟨y, rfl⟩ : ∃ y : Nat, b = (y : Int) := ⟨b.toNat, by omega⟩
  have e : IntKind.u32.bits = 32 := rfl
  have h := pU (n := 32) ha hb
  rw [e, BitVec.toNat_xor, eC, eC, Nat.mod_eq_of_lt (by omega), Nat.mod_eq_of_lt (by omega)]
  simp only [eB, Int.toNat_natCast] at h ⊢
  exact aL.wrap32 h.1 (by have := h.2; omega)
theorem Oy {a b : Int} (ha : 0 ≤ a ∧ a < 256) (hb : 0 ≤ b ∧ b < 256) : IntKind.u8.wrap ((BitVec.ofInt IntKind.u8.bits a ^^^ BitVec.ofInt IntKind.u8.bits b).toNat : Int) = eB a b := by
  obtain ⟨x, rfl⟩ : ∃ x : Nat, a = (x : Int) := ⟨a.toNat, by omega⟩
  obtain ⟨y, rfl⟩ : ∃ y : Nat, b = (y : Int) := ⟨b.toNat, by omega⟩
  have e : IntKind.u8.bits = 8 := rfl
  have h := pU (n := 8) ha hb
  rw [e, BitVec.toNat_xor, eC, eC, Nat.mod_eq_of_lt (by omega), Nat.mod_eq_of_lt (by omega)]
  simp only [eB, Int.toNat_natCast] at h ⊢
  exact Sl.lj h.1 (by have := h.2; omega)
theorem vk {a : Int} (ha : 0 ≤ a ∧ a < 4294967296) : IntKind.u32.wrap ((BitVec.ofInt IntKind.u32.bits 4294967295 ^^^ BitVec.ofInt IntKind.u32.bits a).toNat : Int) = 4294967295 - a := by
  obtain ⟨x, rfl⟩ : ∃ x : Nat, a = (x : Int) := ⟨a.toNat, by omega⟩
  have e : IntKind.u32.bits = 32 := rfl
  have e1 : BitVec.ofInt 32 4294967295 = BitVec.allOnes 32 := by decide
  rw [e, e1, BitVec.xor_comm, BitVec.xor_allOnes, BitVec.toNat_not, eC, Nat.mod_eq_of_lt (by omega), aL.wrap32 (by omega) (by omega)]
  omega
def qt (x : Nat) : Nat := if x % 2 = 1 then (x / 2) ^^^ 3988292384 else x / 2
def kE : Nat → Nat → Nat
  | 0, x => x
  | k + 1, x => qt (kE k x)
theorem D1 (a b : Nat) : (a ^^^ b) % 2 = (a % 2 + b % 2) % 2 := by
  have h := Nat.testBit_xor a b 0
  simp only [Nat.testBit_zero] at h
  have ha : a % 2 = 0 ∨ a % 2 = 1 := by omega
  have hb : b % 2 = 0 ∨ b % 2 = 1 := by omega
  have hc : (a ^^^ b) % 2 = 0 ∨ (a ^^^ b) % 2 = 1 := by omega
  rcases ha with ha | ha <;> rcases hb with hb | hb <;> rcases hc with hc | hc <;> rw [ha, hb, hc] at h <;> first | omega | (exfalso; revert h; decide)
theorem EP (a b : Nat) : (a ^^^ b) / 2 = (a / 2) ^^^ (b / 2) := by
  refine Nat.eq_of_testBit_eq fun i => ?_
  simp only [Nat.testBit_div_two, Nat.testBit_xor]
theorem ID (a b : Nat) : qt (a ^^^ b) = qt a ^^^ qt b := by
  have h2 := D1 a b
  have ha : a % 2 = 0 ∨ a % 2 = 1 := by omega
  have hb : b % 2 = 0 ∨ b % 2 = 1 := by omega
  unfold qt
  rw [EP]
  rcases ha with ha | ha <;> rcases hb with hb | hb <;> rw [h2, ha, hb]
  · simp
  · simp [Nat.xor_assoc]
  · simp only [Nat.reduceAdd, Nat.reduceMod, if_pos, if_neg, Nat.zero_ne_one, not_false_eq_true]
    rw [Nat.xor_assoc, Nat.xor_comm (b / 2), ← Nat.xor_assoc]
  · simp only [Nat.reduceAdd, Nat.reduceMod, if_pos, Nat.zero_ne_one, if_false]
    rw [Nat.xor_assoc, Nat.xor_comm 3988292384, Nat.xor_assoc, Nat.xor_self, Nat.xor_zero]
theorem Ja (k a b : Nat) : kE k (a ^^^ b) = kE k a ^^^ kE k b := by
  induction k with
  | zero => rfl
  | succ k ih => simp only [kE, ih, ID]
theorem GJ (a : Nat) : qt (2 * a) = a := by unfold qt; rw [if_neg (by omega)]; omega
theorem Nz (h : Nat) : kE 8 (256 * h) = h := by
  have e : ∀ k m : Nat, kE k (2 ^ k * m) = m := by
    intro k
    induction k with
    | zero => intro m; simp [kE]
    | succ k ih => intro m; rw [kE, Nat.pow_succ, Nat.mul_assoc, ih, GJ]
  exact e 8 h
theorem DL (s : Nat) : s = (256 * (s / 256)) ^^^ (s % 256) := by
  have h := Nat.two_pow_add_eq_or_of_lt (i := 8) (b := s % 256) (by omega) (s / 256)
  have h2 : (2 ^ 8 * (s / 256)) ^^^ (s % 256) = (2 ^ 8 * (s / 256)) ||| (s % 256) := by
    refine Nat.eq_of_testBit_eq fun i => ?_
    rw [Nat.testBit_xor, Nat.testBit_or]
    rcases Nat.lt_or_ge i 8 with hi | hi
    · rw [Nat.testBit_two_pow_mul, decide_eq_false (by omega)]; simp
    · have : (s % 256).testBit i = false := Nat.testBit_lt_two_pow (Nat.lt_of_lt_of_le (by omega : s % 256 < 2 ^ 8) (Nat.pow_le_pow_right (by decide) hi))
      rw [this]; simp
  have e : 2 ^ 8 * (s / 256) = 256 * (s / 256) := by omega
  rw [e] at h h2
  omega
theorem CW (s c : Nat) (hc : c < 256) : kE 8 (s ^^^ c) = kE 8 ((s % 256) ^^^ c) ^^^ (s / 256) := by
  conv => lhs; rw [DL s]
  rw [Nat.xor_assoc, Ja, Nz, Nat.xor_comm]
end Go.aa
namespace Go.aa
open Go.aj
theorem Mo {x : Nat} (h : x < 4294967296) : qt x < 4294967296 := by
  unfold qt
  split
  · exact Nat.xor_lt_two_pow (n := 32) (by omega) (by decide)
  · omega
theorem Ab {x : Nat} (h : x < 4294967296) : ∀ k, kE k x < 4294967296
  | 0 => h
  | k + 1 => Mo (Ab h k)
def gM (x : Int) : Int := ((kE 8 x.toNat : Nat) : Int)
theorem yZ {x : Int} (h : 0 ≤ x ∧ x < 4294967296) : 0 ≤ gM x ∧ gM x < 4294967296 := by
  have := Ab (x := x.toNat) (by omega) 8
  unfold gM; omega
theorem AG {s c : Int} (hs : 0 ≤ s) (hc : 0 ≤ c ∧ c < 256) : gM (eB s c) = eB (gM (eB (s % 256) c)) (s / 256) := by
  obtain ⟨a, rfl⟩ : ∃ a : Nat, s = (a : Int) := ⟨s.toNat, by omega⟩
  obtain ⟨b, rfl⟩ : ∃ b : Nat, c = (b : Int) := ⟨c.toNat, by omega⟩
  have e1 : ((a : Int) % 256).toNat = a % 256 := by omega
  have e2 : ((a : Int) / 256).toNat = a / 256 := by omega
  simp only [gM, eB, Int.toNat_natCast, e1, e2]
  rw [CW a b (by omega)]
def ga (s : Int) (l : List Int) : Int := l.foldl (fun s c => gM (eB s c)) s
theorem nS : ∀ {l : List Int} {s : Int}, av l → 0 ≤ s ∧ s < 4294967296 → 0 ≤ ga s l ∧ ga s l < 4294967296
  | [], s, _, h => h
  | c :: l, s, hl, h => by
    have hc := hl c (by simp)
    exact nS (l := l) (fun x hx => hl x (by simp [hx])) (yZ (by have := pU (n := 32) (a := s) (b := c) (by omega) (by omega); omega))
theorem wR {l : List Int} {s : Int} {i : Nat} (h : i < l.length) : ga s (l.take (i + 1)) = gM (eB (ga s (l.take i)) (l.getD i 0)) := by
  rw [ad.kc h]; simp [ga]
def qw (s : Int) (l : List Int) : Int := 4294967295 - ga (4294967295 - s) l
theorem td {s : Int} {l : List Int} (hs : 0 ≤ s ∧ s < 4294967296) (hl : av l) : 0 ≤ qw s l ∧ qw s l < 4294967296 := by
  have := nS (l := l) (s := 4294967295 - s) hl (by omega)
  unfold qw; omega
structure Ch where
  k : List Int
  d : List Int
def ia (k d : List Int) : Int := qw (qw 0 k) d
def kx (c : Int) : Prop := (97 ≤ c ∧ c ≤ 122) ∨ (65 ≤ c ∧ c ≤ 90)
instance (c : Int) : Decidable (kx c) := by unfold kx; infer_instance
def ej (k : List Int) : Prop := k.length = 4 ∧ ∀ c ∈ k, kx c
instance (k : List Int) : Decidable (ej k) := by unfold ej; infer_instance
def dm : List Int := [73, 72, 68, 82]
def bd : List Int := [80, 76, 84, 69]
def bR : List Int := [116, 82, 78, 83]
def bS : List Int := [73, 68, 65, 84]
def cu : List Int := [73, 69, 78, 68]
def fx : List Int := [137, 80, 78, 71, 13, 10, 26, 10]
def first (L : List Int) : Except Int Ch :=
  if L.length < 12 then .error 2
  else if 2147483647 < aL.dU L ∨ ¬ ej ((L.drop 4).take 4) then .error 4
  else if (L.length : Int) - 12 < aL.dU L then .error 2
  else if aL.dU (L.drop (8 + (aL.dU L).toNat)) = ia ((L.drop 4).take 4) ((L.drop 8).take (aL.dU L).toNat) then .ok ⟨(L.drop 4).take 4, (L.drop 8).take (aL.dU L).toNat⟩
  else .error 5
theorem ui {L : List Int} (h : av L) : 0 ≤ aL.dU L ∧ aL.dU L < 4294967296 := by
  have h0 := h.get 0; have h1 := h.get 1; have h2 := h.get 2; have h3 := h.get 3
  unfold aL.dU; omega
theorem Iz {L : List Int} (hL : av L) : (L.length < 12 ∧ first L = .error 2) ∨ ∃ n : Nat, 12 ≤ L.length ∧ aL.dU L = (n : Int) ∧ n < 4294967296 ∧
    ((2147483647 < n ∧ first L = .error 4) ∨ (n ≤ 2147483647 ∧ ¬ ej ((L.drop 4).take 4) ∧ first L = .error 4) ∨ (n ≤ 2147483647 ∧ ej ((L.drop 4).take 4) ∧ L.length < 12 + n ∧ first L = .error 2) ∨
     (12 + n ≤ L.length ∧ ej ((L.drop 4).take 4) ∧ aL.dU (L.drop (8 + n)) = ia ((L.drop 4).take 4) ((L.drop 8).take n) ∧ first L = .ok ⟨(L.drop 4).take 4, (L.drop 8).take n⟩ ∧ n ≤ 2147483647) ∨
     (12 + n ≤ L.length ∧ ej ((L.drop 4).take 4) ∧ ¬ aL.dU (L.drop (8 + n)) = ia ((L.drop 4).take 4) ((L.drop 8).take n) ∧ first L = .error 5 ∧ n ≤ 2147483647)) := by
  rcases Nat.lt_or_ge L.length 12 with h | h
  · exact .inl ⟨h, by unfold first; rw [if_pos h]⟩
  · right
    have hn := ui hL
    obtain ⟨n, e⟩ : ∃ n : Nat, aL.dU L = (n : Int) := ⟨(aL.dU L).toNat, by omega⟩
    refine ⟨n, h, e, by omega, ?_⟩
    unfold first
    rw [if_neg (by omega), e, Int.toNat_natCast]
    by_cases h1 : 2147483647 < n
    · exact .inl ⟨h1, by rw [if_pos (.inl (by omega))]⟩
    · by_cases h2 : ej ((L.drop 4).take 4)
      · rw [if_neg (by rintro (h | h); omega; exact h h2)]
        by_cases h3 : L.length < 12 + n
        · exact .inr (.inr (.inl ⟨by omega, h2, h3, by rw [if_pos (by omega)]⟩))
        · rw [if_neg (by omega)]
          by_cases h4 : aL.dU (L.drop (8 + n)) = ia ((L.drop 4).take 4) ((L.drop 8).take n)
          · exact .inr (.inr (.inr (.inl ⟨by omega, h2, h4, by rw [if_pos h4], by omega⟩)))
          · exact .inr (.inr (.inr (.inr ⟨by omega, h2, h4, by rw [if_neg h4], by omega⟩)))
      · exact .inr (.inl ⟨by omega, h2, by rw [if_pos (.inr h2)]⟩)
def gn : Nat → List Int → List Ch → Except Int (List Ch)
  | 0, _, _ => .error 2
  | f + 1, L, l => match first L with
    | .error e => .error e
    | .ok c => if c.k = cu then (if L.length - (12 + c.d.length) = 0 then .ok (l ++ [c]) else .error 4) else gn f (L.drop (12 + c.d.length)) (l ++ [c])
def cut (B : List Int) : Except Int (List Ch) :=
  if 262144 < B.length then .error 3 else if B.length < 8 then .error 2 else if B.take 8 = fx then gn (B.length + 1) (B.drop 8) [] else .error 4
structure Wk where
  plte : Bool
  trns : Bool
  dh : Bool
  kC : Bool
def gL (k : List Int) : Prop := ej k ∧ k.getD 0 0 ≤ 90
instance (k : List Int) : Decidable (gL k) := by unfold gL; infer_instance
def cW (w : Wk) (c : Ch) : Wk × Bool :=
  if c.k = bS then (⟨w.plte, w.trns, true, w.kC⟩, !w.kC)
  else if c.k = bd then (if w.trns then (⟨w.plte, w.trns, w.dh, w.dh⟩, false) else (⟨true, w.trns, w.dh, w.dh⟩, !w.plte && !w.dh))
  else if c.k = bR then (⟨w.plte, true, w.dh, w.dh⟩, !w.trns && !w.dh)
  else (⟨w.plte, w.trns, w.dh, w.dh⟩, decide (ej c.k) && !decide (gL c.k))
def walk : List Ch → Wk → Option Wk
  | [], w => some w
  | c :: l, w => if (cW w c).2 then walk l (cW w c).1 else none
def dN (l : List Ch) : Bool :=
  decide (3 ≤ l.length) && (l.map Ch.k).getD 0 [] == dm && (l.map (·.d.length)).getD 0 0 == 13 && (l.map Ch.k).getD (l.length - 1) [] == cu && (l.map (·.d.length)).getD (l.length - 1) 0 == 0 &&
    (match walk ((l.drop 1).take (l.length - 2)) ⟨false, false, false, false⟩ with | some w => w.dh | none => false)
end Go.aa
namespace Go.aa
open Go.aj
structure Od where
  iP : Nat
  ends : Nat
  iT : Nat
  gA : Nat
  gW : Nat
def eE (n i : Nat) (prev : List Int) (c : Ch) (s : Od) : Option Od :=
  if c.k = dm then (if 0 < i ∨ c.d.length ≠ 13 then none else some { s with iP := s.iP + 1 })
  else if c.k = cu then (if i + 1 < n ∨ 0 < c.d.length then none else some { s with ends := s.ends + 1 })
  else if c.k = bS then (if 0 < s.gW ∧ prev ≠ bS then none else some { s with gW := s.gW + 1 })
  else if c.k = bd then (if 0 < s.gW ∨ 0 < s.gA then none else some { s with iT := s.iT + 1 })
  else if c.k = bR then (if 0 < s.gW then none else some { s with gA := s.gA + 1 })
  else if ¬ ej c.k ∨ gL c.k then none else some s
def rU (s : Od) : Bool := decide (s.iP = 1) && decide (s.ends = 1) && decide (1 ≤ s.gW) && decide (s.iT ≤ 1) && decide (s.gA ≤ 1)
def lz (n : Nat) : Nat → List Int → List Ch → Od → Bool
  | _, _, [], s => rU s
  | i, prev, c :: l, s => match eE n i prev c s with | none => false | some s2 => lz n (i + 1) c.k l s2
theorem DI {n i : Nat} {prev : List Int} {c : Ch} {s s2 : Od} (h : eE n i prev c s = some s2) : s.iT ≤ s2.iT ∧ s.gA ≤ s2.gA ∧ s.iP ≤ s2.iP ∧ (0 < i → s2.iP = s.iP) := by
  unfold eE at h
  split at h
  · split at h
    · cases h
    · rename_i h1 h2; cases h; exact ⟨Nat.le_refl _, Nat.le_refl _, by simp, fun h => absurd (.inl h) h2⟩
  · split at h
    · split at h <;> cases h; simp
    · split at h
      · split at h <;> cases h; simp
      · split at h
        · split at h <;> cases h; simp
        · split at h
          · split at h <;> cases h; simp
          · split at h <;> cases h; simp
theorem tw {n : Nat} : ∀ {l : List Ch} {i : Nat} {prev : List Int} {s : Od}, (1 < s.iT ∨ 1 < s.gA ∨ (0 < i ∧ s.iP = 0)) → lz n i prev l s = false
  | [], i, prev, s, h => by
    unfold lz rU
    rcases h with h | h | h
    · rw [decide_eq_false (p := s.iT ≤ 1) (by omega)]; simp
    · rw [decide_eq_false (p := s.gA ≤ 1) (by omega)]; simp
    · rw [decide_eq_false (p := s.iP = 1) (by omega)]; simp
  | c :: l, i, prev, s, h => by
    unfold lz
    split
    · rfl
    · rename_i s2 h2
      have g := DI h2
      refine tw ?_
      rcases h with h | h | h
      · exact .inl (by omega)
      · exact .inr (.inl (by omega))
      · exact .inr (.inr ⟨by omega, by rw [g.2.2.2 h.1]; exact h.2⟩)
def qg (l : List Ch) (w : Wk) : Bool :=
  (match walk (l.take (l.length - 1)) w with | some w => w.dh | none => false) && (l.map Ch.k).getD (l.length - 1) [] == cu && (l.map (·.d.length)).getD (l.length - 1) 0 == 0
structure Wi (prev : List Int) (s : Od) (w : Wk) : Prop where
  iP : s.iP = 1
  ends : s.ends = 0
  plte : w.plte = decide (0 < s.iT)
  trns : w.trns = decide (0 < s.gA)
  dh : w.dh = decide (0 < s.gW)
  kC : w.kC = decide (0 < s.gW ∧ prev ≠ bS)
  one : s.iT ≤ 1 ∧ s.gA ≤ 1
theorem AO {k : List Int} (h : k = dm ∨ k = cu) : ej k ∧ gL k := by
  rcases h with rfl | rfl <;> decide
theorem Cn {c c2 : Ch} {l : List Ch} {w : Wk} : qg (c :: c2 :: l) w = (if (cW w c).2 then qg (c2 :: l) (cW w c).1 else false) := by
  unfold qg
  have e : (c :: c2 :: l).take ((c :: c2 :: l).length - 1) = c :: (c2 :: l).take ((c2 :: l).length - 1) := by simp
  have e4 : ((c :: c2 :: l).map Ch.k).getD ((c :: c2 :: l).length - 1) [] = ((c2 :: l).map Ch.k).getD ((c2 :: l).length - 1) [] := rfl
  have e5 : ((c :: c2 :: l).map (·.d.length)).getD ((c :: c2 :: l).length - 1) 0 = ((c2 :: l).map (·.d.length)).getD ((c2 :: l).length - 1) 0 := rfl
  rw [e, e4, e5, walk]
  cases h : (cW w c).2
  · simp only [Bool.false_eq_true, if_false, Bool.false_and]
  · simp only [if_true]
theorem Hl {n i : Nat} {prev : List Int} {c : Ch} {s : Od} {w : Wk} (hi : 0 < i) (hn : i + 1 = n) (h : Wi prev s w) : lz n i prev [c] s = qg [c] w := by
  have hp := h.one
  have e : qg [c] w = (w.dh && (c.k == cu) && (c.d.length == 0)) := by simp [qg, walk]
  rw [e, h.dh]
  unfold lz eE
  by_cases h1 : c.k = dm
  · rw [if_pos h1, if_pos (.inl hi)]
    have : (c.k == cu) = false := by rw [h1]; decide
    simp [this]
  · rw [if_neg h1]
    by_cases h2 : c.k = cu
    · rw [if_pos h2]
      by_cases h3 : 0 < c.d.length
      · rw [if_pos (.inr h3)]
        have : (c.d.length == 0) = false := by simp; intro h; rw [h] at h3; simp at h3
        rw [this]; simp
      · rw [if_neg (by rintro (h | h); omega; exact h3 h)]
        simp only [lz, rU, h.iP, h.ends]
        have e1 : (c.k == cu) = true := by rw [h2]; decide
        have e2 : (c.d.length == 0) = true := by simp; exact List.length_eq_zero_iff.1 (by omega)
        rw [e1, e2, decide_eq_true hp.1, decide_eq_true hp.2]
        simp
        omega
    · have e1 : (c.k == cu) = false := by simpa using h2
      rw [if_neg h2, e1]
      simp only [Bool.and_false, Bool.false_and]
      split
      · rfl
      · rename_i s2 hs
        have he : s2.ends = 0 := by
          have hend := h.ends
          split at hs
          · split at hs <;> cases hs; exact hend
          · split at hs
            · split at hs <;> cases hs; exact hend
            · split at hs
              · split at hs <;> cases hs; exact hend
              · split at hs <;> cases hs; exact hend
        simp [lz, rU, he]
theorem pJ {n : Nat} : ∀ {l : List Ch} {i : Nat} {prev : List Int} {s : Od} {w : Wk}, l ≠ [] → 0 < i → i + l.length = n → Wi prev s w → lz n i prev l s = qg l w
  | [], i, prev, s, w, h, _, _, _ => absurd rfl h
  | [c], i, prev, s, w, _, hi, hn, h => Hl hi (by simpa using hn) h
  | c :: c2 :: l, i, prev, s, w, _, hi, hn, h => by
    have hn2 : i + 1 + (c2 :: l).length = n := by simp only [List.length_cons] at hn ⊢; omega
    have hlt : i + 1 < n := by simp only [List.length_cons] at hn; omega
    have hp := h.one
    rw [Cn]
    rw [lz]
    by_cases h1 : c.k = dm
    · have hc := AO (.inl h1)
      rw [show eE n i prev c s = none by unfold eE; rw [if_pos h1, if_pos (.inl hi)]]
      have : (cW w c).2 = false := by
        unfold cW
        rw [if_neg (by rw [h1]; decide), if_neg (by rw [h1]; decide), if_neg (by rw [h1]; decide)]
        simp [hc.1, hc.2]
      rw [this]; rfl
    by_cases h2 : c.k = cu
    · have hc := AO (.inr h2)
      rw [show eE n i prev c s = none by unfold eE; rw [if_neg h1, if_pos h2, if_pos (.inl hlt)]]
      have : (cW w c).2 = false := by
        unfold cW
        rw [if_neg (by rw [h2]; decide), if_neg (by rw [h2]; decide), if_neg (by rw [h2]; decide)]
        simp [hc.1, hc.2]
      rw [this]; rfl
    by_cases h3 : c.k = bS
    · have e : cW w c = (⟨w.plte, w.trns, true, w.kC⟩, !w.kC) := by unfold cW; rw [if_pos h3]
      rw [e]
      by_cases h4 : 0 < s.gW ∧ prev ≠ bS
      · rw [show eE n i prev c s = none by unfold eE; rw [if_neg h1, if_neg h2, if_pos h3, if_pos h4]]
        rw [h.kC, decide_eq_true h4]; rfl
      · rw [show eE n i prev c s = some { s with gW := s.gW + 1 } by unfold eE; rw [if_neg h1, if_neg h2, if_pos h3, if_neg h4]]
        rw [h.kC, decide_eq_false h4]
        simp only [Bool.not_false, if_true]
        refine pJ (by simp) (by omega) hn2 ⟨h.iP, h.ends, h.plte, h.trns, by simp, ?_, hp⟩
        simp [h3]
    by_cases h4 : c.k = bd
    · by_cases h5 : 0 < s.gW ∨ 0 < s.gA
      · rw [show eE n i prev c s = none by unfold eE; rw [if_neg h1, if_neg h2, if_neg h3, if_pos h4, if_pos h5]]
        have : (cW w c).2 = false := by
          unfold cW
          rw [if_neg h3, if_pos h4, h.trns, h.dh]
          by_cases h6 : 0 < s.gA
          · simp [h6]
          · have h7 : 0 < s.gW := by omega
            simp [h6, h7]
        rw [this]; rfl
      · have h6 : ¬ 0 < s.gA := fun hh => h5 (.inr hh)
        have h7 : ¬ 0 < s.gW := fun hh => h5 (.inl hh)
        rw [show eE n i prev c s = some { s with iT := s.iT + 1 } by unfold eE; rw [if_neg h1, if_neg h2, if_neg h3, if_pos h4, if_neg h5]]
        have e : cW w c = (⟨true, w.trns, w.dh, w.dh⟩, !w.plte && !w.dh) := by
          unfold cW
          rw [if_neg h3, if_pos h4, h.trns]
          simp [h6]
        rw [e, h.plte, h.dh]
        by_cases h8 : 0 < s.iT
        · rw [show (!decide (0 < s.iT) && !decide (0 < s.gW)) = false by simp [h8]]
          simp only [Bool.false_eq_true, if_false]
          exact tw (.inl (by simp only; omega))
        · rw [show (!decide (0 < s.iT) && !decide (0 < s.gW)) = true by simp [h8, h7]]
          simp only [if_true]
          refine pJ (by simp) (by omega) hn2 ⟨h.iP, h.ends, by simp, h.trns, by simp [h7], ?_, by simp only; omega, hp.2⟩
          simp [h7]
    by_cases h5 : c.k = bR
    · have e : cW w c = (⟨w.plte, true, w.dh, w.dh⟩, !w.trns && !w.dh) := by unfold cW; rw [if_neg h3, if_neg h4, if_pos h5]
      rw [e, h.trns, h.dh]
      by_cases h7 : 0 < s.gW
      · rw [show eE n i prev c s = none by unfold eE; rw [if_neg h1, if_neg h2, if_neg h3, if_neg h4, if_pos h5, if_pos h7]]
        simp [h7]
      · rw [show eE n i prev c s = some { s with gA := s.gA + 1 } by unfold eE; rw [if_neg h1, if_neg h2, if_neg h3, if_neg h4, if_pos h5, if_neg h7]]
        by_cases h8 : 0 < s.gA
        · rw [show (!decide (0 < s.gA) && !decide (0 < s.gW)) = false by simp [h8]]
          simp only [Bool.false_eq_true, if_false]
          exact tw (.inr (.inl (by simp only; omega)))
        · rw [show (!decide (0 < s.gA) && !decide (0 < s.gW)) = true by simp [h8, h7]]
          simp only [if_true]
          refine pJ (by simp) (by omega) hn2 ⟨h.iP, h.ends, h.plte, by simp, by simp [h7], ?_, hp.1, by simp only; omega⟩
          simp [h7]
    · have e : cW w c = (⟨w.plte, w.trns, w.dh, w.dh⟩, decide (ej c.k) && !decide (gL c.k)) := by unfold cW; rw [if_neg h3, if_neg h4, if_neg h5]
      rw [e]
      by_cases h6 : ¬ ej c.k ∨ gL c.k
      · rw [show eE n i prev c s = none by unfold eE; rw [if_neg h1, if_neg h2, if_neg h3, if_neg h4, if_neg h5, if_pos h6]]
        have : (decide (ej c.k) && !decide (gL c.k)) = false := by
          rcases h6 with h | h <;> simp [h]
        simp [this]
      · rw [show eE n i prev c s = some s by unfold eE; rw [if_neg h1, if_neg h2, if_neg h3, if_neg h4, if_neg h5, if_neg h6]]
        have : (decide (ej c.k) && !decide (gL c.k)) = true := by
          have a : ej c.k := Classical.byContradiction fun hh => h6 (.inl hh)
          have b : ¬ gL c.k := fun hh => h6 (.inr hh)
          simp [a, b]
        simp only [this, if_true]
        refine pJ (by simp) (by omega) hn2 ⟨h.iP, h.ends, h.plte, h.trns, h.dh, ?_, hp⟩
        rw [h.dh]
        have : c.k ≠ bS := h3
        simp [this]
theorem GL (l : List Ch) : lz l.length 0 [] l ⟨0, 0, 0, 0, 0⟩ = dN l := by
  match l with
  | [] => rfl
  | [c] =>
    have e : dN [c] = false := by simp [dN]
    rw [e]
    unfold lz
    split
    · rfl
    · rename_i s2 h
      unfold eE at h
      simp only [lz, rU]
      split at h
      · split at h <;> cases h; simp
      · split at h
        · split at h <;> cases h; simp
        · split at h
          · split at h <;> cases h; simp
          · split at h
            · split at h <;> cases h; simp
            · split at h
              · split at h <;> cases h; simp
              · split at h <;> cases h; simp
  | c :: c2 :: l =>
    rw [lz]
    by_cases h1 : c.k = dm
    · by_cases h2 : c.d.length = 13
      · rw [show eE (c :: c2 :: l).length 0 [] c ⟨0, 0, 0, 0, 0⟩ = some ⟨1, 0, 0, 0, 0⟩ by unfold eE; rw [if_pos h1, if_neg (by rintro (h | h); omega; exact h h2)]]
        simp only
        rw [pJ (w := ⟨false, false, false, false⟩) (by simp) (by omega) (by simp only [List.length_cons]; omega) ⟨rfl, rfl, by simp, by simp, by simp, by simp, by simp, by simp⟩]
        unfold dN qg
        have e1 : ((c :: c2 :: l).map Ch.k).getD 0 [] = dm := h1
        have e2 : ((c :: c2 :: l).map (·.d.length)).getD 0 0 = 13 := h2
        have e3 : ((c :: c2 :: l).drop 1).take ((c :: c2 :: l).length - 2) = (c2 :: l).take ((c2 :: l).length - 1) := by simp
        have e4 : ((c :: c2 :: l).map Ch.k).getD ((c :: c2 :: l).length - 1) [] = ((c2 :: l).map Ch.k).getD ((c2 :: l).length - 1) [] := rfl
        have e5 : ((c :: c2 :: l).map (·.d.length)).getD ((c :: c2 :: l).length - 1) 0 = ((c2 :: l).map (·.d.length)).getD ((c2 :: l).length - 1) 0 := rfl
        rw [e1, e2, e3, e4, e5]
        rcases Nat.eq_zero_or_pos l.length with h0 | h0
        · have hl : l = [] := List.length_eq_zero_iff.1 h0
          subst hl
          simp [walk]
        · rw [decide_eq_true (p := 3 ≤ (c :: c2 :: l).length) (by simp only [List.length_cons]; omega)]
          rw [show (dm == dm) = true by decide, show ((13 : Nat) == 13) = true from rfl]
          have hb : ∀ a b m : Bool, (m && a && b) = (true && true && true && a && b && m) := by decide
          exact hb _ _ _
      · rw [show eE (c :: c2 :: l).length 0 [] c ⟨0, 0, 0, 0, 0⟩ = none by unfold eE; rw [if_pos h1, if_pos (.inr h2)]]
        have e2 : ((c :: c2 :: l).map (·.d.length)).getD 0 0 = c.d.length := rfl
        have e3 : (c.d.length == 13) = false := by simpa using h2
        unfold dN
        rw [e2, e3]
        simp
    · have e1 : ((c :: c2 :: l).map Ch.k).getD 0 [] = c.k := rfl
      have e3 : (c.k == dm) = false := by simpa using h1
      have e4 : dN (c :: c2 :: l) = false := by unfold dN; rw [e1, e3]; simp
      rw [e4]
      split
      · rfl
      · rename_i s2 h
        have hz : s2.iP = 0 := by
          unfold eE at h
          rw [if_neg h1] at h
          split at h
          · split at h <;> cases h; rfl
          · split at h
            · split at h <;> cases h; rfl
            · split at h
              · split at h <;> cases h; rfl
              · split at h
                · split at h <;> cases h; rfl
                · split at h <;> cases h; rfl
        exact tw (.inr (.inr ⟨by omega, hz⟩))
end Go.aa
namespace Go.aa
open Go.aj
def off (a b : Int) : Int := max (a - b) (b - a)
def rn (a b c : Int) : Int :=
  if off (a + b - c) a ≤ off (a + b - c) b ∧ off (a + b - c) a ≤ off (a + b - c) c then a else if off (a + b - c) b ≤ off (a + b - c) c then b else c
def pe (kind a b c : Int) : Int := if kind = 1 then a else if kind = 2 then b else if kind = 3 then (a + b) / 2 else if kind = 4 then rn a b c else 0
def gz (l : List Int) (i back : Nat) : Int := if i < back then 0 else l.getD (i - back) 0
def kl (kind : Int) (row above : List Int) (back : Nat) (out : List Int) (i : Nat) : Int := (row.getD i 0 + pe kind (gz out i back) (above.getD i 0) (gz above i back)) % 256
def jq (kind : Int) (row above : List Int) (back : Nat) : Nat → List Int
  | 0 => []
  | i + 1 => jq kind row above back i ++ [kl kind row above back (jq kind row above back i) i]
def gl (kind : Int) (row above : List Int) (back : Nat) : List Int := jq kind row above back row.length
theorem mN (kind : Int) (row above : List Int) (back : Nat) : ∀ i, (jq kind row above back i).length = i
  | 0 => rfl
  | i + 1 => by simp [jq, mN kind row above back i]
theorem uo (kind : Int) (row above : List Int) (back : Nat) : (gl kind row above back).length = row.length := mN ..
theorem rE (kind : Int) (row above : List Int) (back : Nat) : ∀ i, av (jq kind row above back i)
  | 0 => fun x hx => by cases hx
  | i + 1 => aQ.av.snoc (rE kind row above back i) (by unfold kl; omega)
theorem LJ {a b : List Int} {i back : Nat} (ha : a.length = i) (hb : 0 < back) : gz (a ++ b) i back = gz a i back := by
  unfold gz
  split
  · rfl
  · rw [List.getD_eq_getElem?_getD, List.getD_eq_getElem?_getD, List.getElem?_append_left (by omega)]
theorem Ft {l : List Int} (h : av l) (i back : Nat) : 0 ≤ gz l i back ∧ gz l i back < 256 := by
  unfold gz
  split
  · decide
  · exact h.get _
structure Ps where
  x : Int
  y : Int
  dx : Int
  dy : Int
  w : Int
  h : Int
def many (frm step end_ : Int) : Int := if end_ ≤ frm then 0 else (end_ - frm + step - 1) / step
def tn (x y dx dy w h : Int) : Ps := ⟨x, y, dx, dy, many x dx w, many y dy h⟩
def jc (w h : Int) : List Ps := [tn 0 0 8 8 w h, tn 4 0 8 8 w h, tn 0 4 4 8 w h, tn 2 0 4 4 w h, tn 0 2 2 4 w h, tn 1 0 2 2 w h, tn 0 1 1 2 w h]
def gj (w h : Int) : List Ps := (jc w h).filter fun p => decide (0 < p.w) && decide (0 < p.h)
def whole (w h : Int) : List Ps := [⟨0, 0, 1, 1, w, h⟩]
def bN (w h : Int) : Int := if w < 1 ∨ h < 1 then 1 else if 256 < w ∨ 256 < h ∨ 16384 / h < w then 6 else 0
def ff (w bits : Int) : Int := (w * bits + 7) / 8
def fQ (l : List Ps) (bits : Int) : Int := (l.map fun p => if 0 < p.w then p.h * (1 + ff p.w bits) else 0).sum
structure Hd where
  w : Int
  h : Int
  dep : Int
  ax : Int
  cm : Bool
def parts (c : Int) : Int := if c = 0 ∨ c = 3 then 1 else if c = 2 then 3 else if c = 4 then 2 else if c = 6 then 4 else 0
def deep (c d : Int) : Prop := (c = 0 ∧ (d = 1 ∨ d = 2 ∨ d = 4 ∨ d = 8 ∨ d = 16)) ∨ (c = 3 ∧ (d = 1 ∨ d = 2 ∨ d = 4 ∨ d = 8)) ∨ ((c = 2 ∨ c = 4 ∨ c = 6) ∧ (d = 8 ∨ d = 16))
instance (c d : Int) : Decidable (deep c d) := by unfold deep; infer_instance
def bj (B : List Int) : Hd := ⟨aL.dU B, aL.dU (B.drop 4), B.getD 8 0, B.getD 9 0, decide (B.getD 12 0 = 1)⟩
def fO (B : List Int) : Int :=
  if B.length ≠ 13 then 4
  else if ¬ deep (bj B).ax (bj B).dep ∨ 0 < B.getD 10 0 + B.getD 11 0 ∨ 1 < B.getD 12 0 ∨ (bj B).w = 0 ∨ (bj B).h = 0 then 4
  else if bN (bj B).w (bj B).h = 0 then 0 else 6
def gX (B : List Int) (i : Nat) : Int := B.getD (i / 8) 0 / 2 ^ (7 - i % 8) % 2
def cU (B : List Int) (at_ : Nat) : Nat → Int
  | 0 => 0
  | n + 1 => 2 * cU B at_ n + gX B (at_ + n)
structure Fl where
  hd : Hd
  plte : List Int
  trns : List Int
def cE (l : List Ch) (k : List Int) : List Int := match l.find? (fun c => c.k == k) with | some c => c.d | none => []
def fD (l : List Ch) (k : List Int) : Bool := l.any fun c => c.k == k
def dh (l : List Ch) : List Int := (l.filter fun c => c.k == bS).flatMap (·.d)
def oL (h : Hd) (plte : List Int) (has : Bool) (trns : List Int) (is : Bool) : Prop :=
  (if has then ¬ (h.ax = 0 ∨ h.ax = 4) ∧ (h.ax = 3 → (plte.length : Int) / 3 ≤ 2 ^ h.dep.toNat) ∧ plte.length % 3 = 0 ∧ 0 < plte.length ∧ plte.length / 3 ≤ 256 else h.ax ≠ 3) ∧
  (is = true → (h.ax = 3 ∧ trns.length ≤ plte.length / 3) ∨ (h.ax = 0 ∧ trns.length = 2) ∨ (h.ax = 2 ∧ trns.length = 6))
instance (h : Hd) (plte : List Int) (has : Bool) (trns : List Int) (is : Bool) : Decidable (oL h plte has trns is) := by unfold oL; infer_instance
def fC (h : Hd) (row : List Int) (x : Nat) : List Int := (List.range (parts h.ax).toNat).map fun i => cU row (x * (parts h.ax).toNat * h.dep.toNat + i * h.dep.toNat) h.dep.toNat
def I8 (h : Hd) (v : Int) : Int := v * (65535 / (2 ^ h.dep.toNat - 1))
def bA (h : Hd) (trns : List Int) : List Int := if h.ax = 0 ∨ h.ax = 2 then (List.range (trns.length / 2)).map fun i => (trns.getD (2 * i) 0 * 256 + trns.getD (2 * i + 1) 0) % 2 ^ h.dep.toNat else []
def iX (f : Fl) (v : List Int) : Option (List Int) :=
  if f.hd.ax = 3 then
    (if (f.plte.length / 3 : Nat) ≤ (v.getD 0 0).toNat then none
     else some [f.plte.getD (3 * (v.getD 0 0).toNat) 0 * 257, f.plte.getD (3 * (v.getD 0 0).toNat + 1) 0 * 257, f.plte.getD (3 * (v.getD 0 0).toNat + 2) 0 * 257, if (v.getD 0 0).toNat < f.trns.length then f.trns.getD (v.getD 0 0).toNat 0 * 257 else 65535])
  else
    let u := v.map (I8 f.hd)
    let a := if 0 < (bA f.hd f.trns).length ∧ v = bA f.hd f.trns then 0 else if f.hd.ax = 4 ∨ f.hd.ax = 6 then u.getD (u.length - 1) 0 else 65535
    if f.hd.ax = 0 ∨ f.hd.ax = 4 then some [u.getD 0 0, u.getD 0 0, u.getD 0 0, a] else some [u.getD 0 0, u.getD 1 0, u.getD 2 0, a]
def lE (w : Int) (dv : List Int) (x y : Int) (c : List Int) : List Int := dv.take (4 * (y * w + x)).toNat ++ c ++ dv.drop ((4 * (y * w + x)).toNat + 4)
def gK (f : Fl) (p : Ps) (y : Int) (row : List Int) : Nat → Nat → List Int → Option (List Int)
  | 0, _, dv => some dv
  | k + 1, i, dv => match iX f (fC f.hd row i) with
    | none => none
    | some c => gK f p y row k (i + 1) (lE f.hd.w dv (p.x + i * p.dx) (p.y + y * p.dy) c)
def ft (f : Fl) (D : List Int) (n back : Nat) (p : Ps) : Nat → Nat → Nat → List Int → List Int → Option (Nat × List Int)
  | 0, _, at_, _, dv => some (at_, dv)
  | k + 1, y, at_, above, dv =>
    if 4 < D.getD at_ 0 then none
    else match gK f p y (gl (D.getD at_ 0) ((D.drop (at_ + 1)).take n) above back) p.w.toNat 0 dv with
    | none => none
    | some pix2 => ft f D n back p k (y + 1) (at_ + 1 + n) (gl (D.getD at_ 0) ((D.drop (at_ + 1)).take n) above back) pix2
def bitsOf (h : Hd) : Int := parts h.ax * h.dep
def gO (f : Fl) (D : List Int) : List Ps → Nat → List Int → Option (List Int)
  | [], _, dv => some dv
  | p :: l, at_, dv => match ft f D (ff p.w (bitsOf f.hd)).toNat (max 1 (bitsOf f.hd / 8)).toNat p p.h.toNat 0 at_ [] dv with
    | none => none
    | some (at2, pix2) => gO f D l at2 pix2
def bg (h : Hd) : List Ps := if h.cm then gj h.w h.h else whole h.w h.h
structure tt where
  w : Int
  h : Int
  dv : List Int
def fk : tt := ⟨0, 0, []⟩
def nq (B : List Int) (r : tt × Int) : Prop :=
  match cut B with
  | .error e => r = (fk, e)
  | .ok l =>
    if dN l = false then r = (fk, 4)
    else if fO ((l.map Ch.d).getD 0 []) ≠ 0 then r = (fk, fO ((l.map Ch.d).getD 0 []))
    else if ¬ oL (bj ((l.map Ch.d).getD 0 [])) (cE l bd) (fD l bd) (cE l bR) (fD l bR) then r = (fk, 4)
    else ∃ q, aL.nZ (dh l) (fQ (bg (bj ((l.map Ch.d).getD 0 []))) (bitsOf (bj ((l.map Ch.d).getD 0 [])))) q ∧
      if q.2 ≠ 0 then r = (fk, q.2)
      else if (q.1.length : Int) < fQ (bg (bj ((l.map Ch.d).getD 0 []))) (bitsOf (bj ((l.map Ch.d).getD 0 []))) then r = (fk, 2)
      else match gO ⟨bj ((l.map Ch.d).getD 0 []), cE l bd, cE l bR⟩ q.1 (bg (bj ((l.map Ch.d).getD 0 []))) 0 (List.replicate (4 * (bj ((l.map Ch.d).getD 0 [])).w * (bj ((l.map Ch.d).getD 0 [])).h).toNat 0) with
        | none => r = (fk, 4)
        | some dv => r = (⟨(bj ((l.map Ch.d).getD 0 [])).w, (bj ((l.map Ch.d).getD 0 [])).h, dv⟩, 0)
end Go.aa
namespace Go.aa
open Go.aj
theorem yx {frm step e k : Int} (hs : step = 1 ∨ step = 2 ∨ step = 4 ∨ step = 8) (hk : 0 ≤ k) : frm + k * step < e ↔ k < many frm step e := by
  unfold many
  rcases hs with rfl | rfl | rfl | rfl <;> split <;> omega
theorem xO {frm step e : Int} (hs : step = 1 ∨ step = 2 ∨ step = 4 ∨ step = 8) : 0 ≤ many frm step e := by
  unfold many
  rcases hs with rfl | rfl | rfl | rfl <;> split <;> omega
theorem yc {frm step e : Int} (hf : 0 ≤ frm) (he : 0 ≤ e) (hs : step = 1 ∨ step = 2 ∨ step = 4 ∨ step = 8) : many frm step e ≤ e := by
  unfold many
  rcases hs with rfl | rfl | rfl | rfl <;> split <;> omega
theorem qT (B : List Int) (i : Nat) : 0 ≤ gX B i ∧ gX B i ≤ 1 := by unfold gX; omega
theorem mC (B : List Int) (at_ : Nat) : ∀ n : Nat, 0 ≤ cU B at_ n ∧ cU B at_ n < 2 ^ n
  | 0 => by simp [cU]
  | n + 1 => by
    have ih := mC B at_ n
    have hb := qT B (at_ + n)
    simp only [cU]
    have e : (2 : Int) ^ (n + 1) = 2 * 2 ^ n := by rw [Int.pow_succ]; omega
    rw [e]
    omega
theorem tl (B : List Int) (at_ m : Nat) : ∀ n, cU B at_ (m + n) = cU B at_ m * 2 ^ n + cU B (at_ + m) n
  | 0 => by simp [cU]
  | n + 1 => by
    have ih := tl B at_ m n
    have e : cU B at_ m * (2 ^ n * 2) = (cU B at_ m * 2 ^ n) * 2 := (Int.mul_assoc _ _ _).symm
    rw [← Nat.add_assoc, cU, ih, cU, Int.pow_succ, e, Nat.add_assoc]
    omega
theorem kX (B : List Int) (j k : Nat) (hk : k < 8) : gX B (8 * j + k) = B.getD j 0 / 2 ^ (7 - k) % 2 := by
  unfold gX
  rw [show (8 * j + k) / 8 = j by omega, show (8 * j + k) % 8 = k by omega]
theorem D9 (B : List Int) (a : Nat) : cU B a 8 = 2 * (2 * (2 * (2 * (2 * (2 * (2 * (2 * 0 + gX B (a + 0)) + gX B (a + 1)) + gX B (a + 2)) + gX B (a + 3)) + gX B (a + 4)) + gX B (a + 5)) + gX B (a + 6)) + gX B (a + 7) := rfl
theorem MA {x : Int} (h : 0 ≤ x ∧ x < 256) : 2 * (2 * (2 * (2 * (2 * (2 * (2 * (2 * 0 + x / 128 % 2) + x / 64 % 2) + x / 32 % 2) + x / 16 % 2) + x / 8 % 2) + x / 4 % 2) + x / 2 % 2) + x / 1 % 2 = x := by omega
theorem m0 {B : List Int} {j : Nat} (hb : 0 ≤ B.getD j 0 ∧ B.getD j 0 < 256) : cU B (8 * j) 8 = B.getD j 0 := by
  rw [D9, kX B j 0 (by decide), kX B j 1 (by decide), kX B j 2 (by decide), kX B j 3 (by decide), kX B j 4 (by decide), kX B j 5 (by decide), kX B j 6 (by decide), kX B j 7 (by decide)]
  exact MA hb
theorem qJ {B : List Int} {j : Nat} (hb : 0 ≤ B.getD j 0 ∧ B.getD j 0 < 256) (hc : 0 ≤ B.getD (j + 1) 0 ∧ B.getD (j + 1) 0 < 256) : cU B (8 * j) 16 = B.getD j 0 * 256 + B.getD (j + 1) 0 := by
  have h := tl B (8 * j) 8 8
  rw [m0 hb, show 8 * j + 8 = 8 * (j + 1) by omega, m0 hc] at h
  simpa using h
end Go.aa
namespace Go.aa
open Go.aj
def oh (n : Int) : List Int := [n / 16777216 % 256, n / 65536 % 256, n / 256 % 256, n % 256]
theorem ya (n : Int) : (oh n).length = 4 := rfl
theorem xX (n : Int) : av (oh n) := fun x hx => by
  simp only [oh, List.mem_cons, List.not_mem_nil, or_false] at hx
  rcases hx with rfl | rfl | rfl | rfl <;> omega
theorem yQ {n : Int} (h : 0 ≤ n ∧ n < 4294967296) (r : List Int) : aL.dU (oh n ++ r) = n := by
  simp only [aL.dU, oh, List.cons_append, List.nil_append, List.getD_cons_zero, List.getD_cons_succ]
  omega
def iq (c : Ch) : List Int := oh (c.d.length : Int) ++ (c.k ++ (c.d ++ oh (ia c.k c.d)))
theorem lR {c : Ch} (hk : c.k.length = 4) : (iq c).length = 12 + c.d.length := by
  simp only [iq, List.length_append, ya, hk]; omega
def mz (c : Ch) : Prop := ej c.k ∧ av c.d ∧ c.d.length ≤ 2147483647
theorem qY {k : List Int} (h : ej k) : av k := fun x hx => by
  have := h.2 x hx
  unfold kx at this; omega
theorem JE {k d : List Int} (hk : av k) (hd : av d) : 0 ≤ ia k d ∧ ia k d < 4294967296 := td (td (by decide) hk) hd
theorem HJ {c : Ch} (h : mz c) : av (iq c) := aQ.av.app (xX _) (aQ.av.app (qY h.1) (aQ.av.app h.2.1 (xX _)))
theorem tx {c : Ch} (h : mz c) (r : List Int) : first (iq c ++ r) = .ok c := by
  obtain ⟨hk, hd, hl⟩ := h
  have h4 := hk.1
  have hs := JE (qY hk) hd
  have e0 : iq c ++ r = oh (c.d.length : Int) ++ (c.k ++ (c.d ++ (oh (ia c.k c.d) ++ r))) := by simp [iq]
  have d4 : (iq c ++ r).drop 4 = c.k ++ (c.d ++ (oh (ia c.k c.d) ++ r)) := by rw [e0]; exact List.drop_left' rfl
  have e1 : ((iq c ++ r).drop 4).take 4 = c.k := by rw [d4]; exact List.take_left' h4
  have d8 : (iq c ++ r).drop 8 = c.d ++ (oh (ia c.k c.d) ++ r) := by
    rw [show 8 = 4 + 4 from rfl, ← List.drop_drop, d4]
    exact List.drop_left' h4
  have e2 : ((iq c ++ r).drop 8).take c.d.length = c.d := by rw [d8]; exact List.take_left
  have e3 : (iq c ++ r).drop (8 + c.d.length) = oh (ia c.k c.d) ++ r := by
    rw [← List.drop_drop, d8]; exact List.drop_left
  have e4 : aL.dU (iq c ++ r) = (c.d.length : Int) := by rw [e0]; exact yQ (by omega) _
  have e5 : (iq c ++ r).length = 12 + c.d.length + r.length := by rw [List.length_append, lR h4]
  unfold first
  rw [if_neg (by omega), e4, Int.toNat_natCast, e1, if_neg (by rintro (h | h); omega; exact h hk), if_neg (by omega), e2, e3, yQ hs, if_pos rfl]
def jG (l : List Ch) : List Int := l.flatMap iq
theorem uF {e : Ch} (he : mz e) (hek : e.k = cu) : ∀ (l : List Ch) (f : Nat) (a : List Ch), (∀ c ∈ l, mz c ∧ c.k ≠ cu) → l.length < f → gn f (jG (l ++ [e])) a = .ok (a ++ (l ++ [e]))
  | [], f, a, _, hf => by
    obtain ⟨f, rfl⟩ : ∃ g, f = g + 1 := ⟨f - 1, by simp at hf; omega⟩
    have e1 : jG ([] ++ [e]) = iq e ++ [] := by simp [jG]
    rw [e1, gn, tx he]
    simp only
    rw [if_pos hek, List.append_nil, lR he.1.1, Nat.sub_self, if_pos rfl]
    simp
  | c :: l, f, a, hl, hf => by
    obtain ⟨f, rfl⟩ : ∃ g, f = g + 1 := ⟨f - 1, by simp at hf; omega⟩
    have hc := hl c (by simp)
    have e1 : jG (c :: l ++ [e]) = iq c ++ jG (l ++ [e]) := by simp [jG]
    have e2 : (iq c ++ jG (l ++ [e])).drop (12 + c.d.length) = jG (l ++ [e]) := List.drop_left' (lR hc.1.1.1)
    rw [e1, gn, tx hc.1]
    simp only
    rw [if_neg hc.2, e2, uF he hek l f _ (fun x hx => hl x (by simp [hx])) (by simp at hf; omega)]
    simp
theorem rf : ∀ l : List Ch, (∀ c ∈ l, mz c) → l.length ≤ (jG l).length
  | [], _ => Nat.zero_le _
  | c :: l, h => by
    have ih := rf l (fun x hx => h x (by simp [hx]))
    have := lR (h c (by simp)).1.1
    have e : jG (c :: l) = iq c ++ jG l := by simp [jG]
    rw [e, List.length_append, List.length_cons]
    omega
def cM (l : List Ch) : List Int := fx ++ jG l
theorem DB {l : List Ch} {e : Ch} (he : mz e) (hek : e.k = cu) (hl : ∀ c ∈ l, mz c ∧ c.k ≠ cu) (hn : (cM (l ++ [e])).length ≤ 262144) : cut (cM (l ++ [e])) = .ok (l ++ [e]) := by
  have h8 : (cM (l ++ [e])).length = 8 + (jG (l ++ [e])).length := by simp [cM, fx]; omega
  have e1 : (cM (l ++ [e])).take 8 = fx := List.take_left' rfl
  have e2 : (cM (l ++ [e])).drop 8 = jG (l ++ [e]) := List.drop_left' rfl
  have hge := rf (l ++ [e]) (fun c hc => by
    rcases List.mem_append.1 hc with h | h
    · exact (hl c h).1
    · rw [List.mem_singleton.1 h]; exact he)
  unfold cut
  rw [if_neg (by omega), if_neg (by omega), if_pos e1, e2]
  have := uF he hek l ((cM (l ++ [e])).length + 1) [] hl (by rw [List.length_append, List.length_singleton] at hge; omega)
  simpa using this
theorem BD {l : List Ch} (h : ∀ c ∈ l, mz c) : av (cM l) := by
  have hs : av fx := by unfold av; decide
  refine aQ.av.app hs (fun x hx => ?_)
  obtain ⟨c, hc, hx⟩ := List.mem_flatMap.1 hx
  exact HJ (h c hc) x hx
end Go.aa
namespace Go.aa
open Go.aj
def fE (l : List Ch) : List Int := (l.map Ch.d).getD 0 []
def xk (l : List Ch) : Fl := ⟨bj (fE l), cE l bd, cE l bR⟩
def want (h : Hd) : Int := fQ (bg h) (bitsOf h)
def mr (h : Hd) : List Int := List.replicate (4 * h.w * h.h).toNat 0
inductive Pw (B : List Int) (r : tt × Int) : Prop
  | cut (e : Int) (h : cut B = .error e) (hr : r = (fk, e))
  | ord (l : List Ch) (h : aa.cut B = .ok l) (ho : dN l = false) (hr : r = (fk, 4))
  | head (l : List Ch) (h : aa.cut B = .ok l) (ho : dN l = true) (hh : fO (fE l) ≠ 0) (hr : r = (fk, fO (fE l)))
  | table (l : List Ch) (h : aa.cut B = .ok l) (ho : dN l = true) (hh : fO (fE l) = 0) (ht : ¬ oL (bj (fE l)) (cE l bd) (fD l bd) (cE l bR) (fD l bR)) (hr : r = (fk, 4))
  | open_ (l : List Ch) (q : List Int × Int) (h : aa.cut B = .ok l) (ho : dN l = true) (hh : fO (fE l) = 0) (ht : oL (bj (fE l)) (cE l bd) (fD l bd) (cE l bR) (fD l bR)) (hq : aL.nZ (dh l) (want (bj (fE l))) q)
      (hr : (q.2 ≠ 0 ∧ r = (fk, q.2)) ∨ (q.2 = 0 ∧ (q.1.length : Int) < want (bj (fE l)) ∧ r = (fk, 2)) ∨
        (q.2 = 0 ∧ want (bj (fE l)) ≤ q.1.length ∧ gO (xk l) q.1 (bg (bj (fE l))) 0 (mr (bj (fE l))) = none ∧ r = (fk, 4)) ∨
        ∃ dv, q.2 = 0 ∧ want (bj (fE l)) ≤ q.1.length ∧ gO (xk l) q.1 (bg (bj (fE l))) 0 (mr (bj (fE l))) = some dv ∧ r = (⟨(bj (fE l)).w, (bj (fE l)).h, dv⟩, 0))
theorem nq.ways {B : List Int} {r : tt × Int} (h : nq B r) : Pw B r := by
  unfold nq at h
  cases hc : cut B with
  | error e => rw [hc] at h; exact .cut e hc h
  | ok l =>
    rw [hc] at h
    simp only at h
    split at h
    · rename_i ho; exact .ord l hc ho h
    · rename_i ho
      have ho : dN l = true := by simpa using ho
      split at h
      · rename_i hh; exact .head l hc ho hh h
      · rename_i hh
        have hh : fO (fE l) = 0 := by simpa [fE] using hh
        split at h
        · rename_i ht; exact .table l hc ho hh ht h
        · rename_i ht
          have ht := Classical.not_not.1 ht
          obtain ⟨q, hq, h⟩ := h
          refine .open_ l q hc ho hh ht hq ?_
          split at h
          · rename_i h1; exact .inl ⟨h1, h⟩
          · rename_i h1
            have h1 : q.2 = 0 := by simpa using h1
            split at h
            · rename_i h2; exact .inr (.inl ⟨h1, h2, h⟩)
            · rename_i h2
              have h2 : want (bj (fE l)) ≤ q.1.length := Int.not_lt.1 h2
              split at h
              · rename_i h3; exact .inr (.inr (.inl ⟨h1, h2, h3, h⟩))
              · rename_i dv h3; exact .inr (.inr (.inr ⟨dv, h1, h2, h3, h⟩))
theorem vt : ∀ {f : Nat} {L : List Int} {a l : List Ch}, av L → (∀ c ∈ a, av c.d) → gn f L a = .ok l → ∀ c ∈ l, av c.d
  | 0, L, a, l, _, _, h => by cases h
  | f + 1, L, a, l, hL, ha, h => by
    rw [gn] at h
    split at h
    · cases h
    · rename_i c hc
      have hd : av c.d := by
        unfold first at hc
        split at hc
        · cases hc
        · split at hc
          · cases hc
          · split at hc
            · cases hc
            · split at hc
              · cases hc
                exact fun x hx => hL x (List.mem_of_mem_drop (List.mem_of_mem_take hx))
              · cases hc
      have ha2 : ∀ y ∈ a ++ [c], av y.d := fun y hy => by
        rcases List.mem_append.1 hy with hy | hy
        · exact ha y hy
        · rw [List.mem_singleton.1 hy]; exact hd
      split at h
      · split at h
        · cases h; exact ha2
        · cases h
      · exact vt (fun x hx => hL x (List.mem_of_mem_drop hx)) ha2 h
theorem ig {B : List Int} {l : List Ch} (hB : av B) (h : cut B = .ok l) : ∀ c ∈ l, av c.d := by
  unfold cut at h
  split at h
  · cases h
  · split at h
    · cases h
    · split at h
      · exact vt (fun x hx => hB x (List.mem_of_mem_drop hx)) (fun c hc => by cases hc) h
      · cases h
theorem si {l : List Ch} (h : ∀ c ∈ l, av c.d) : av (dh l) := fun x hx => by
  obtain ⟨c, hc, hx⟩ := List.mem_flatMap.1 hx
  exact h c (List.mem_filter.1 hc).1 x hx
end Go.aa
namespace Go.aa
open Go.aj Go.ad
theorem pq : ∀ (f : Nat) {B : List Int}, B.length ≤ 65535 * (f + 1) → av B → ∀ X ∈ aQ.jj f B, X.length ≤ 65535 ∧ av X
  | 0, B, h, hB, X, hX => by
    simp only [aQ.jj, List.mem_singleton] at hX
    subst hX
    exact ⟨by omega, hB⟩
  | f + 1, B, h, hB, X, hX => by
    unfold aQ.jj at hX
    split at hX
    · simp only [List.mem_singleton] at hX
      subst hX
      exact ⟨by omega, hB⟩
    · rcases List.mem_cons.1 hX with rfl | hX
      · exact ⟨by rw [List.length_take]; omega, fun x hx => hB x (List.mem_of_mem_take hx)⟩
      · exact pq f (by rw [List.length_drop]; omega) (fun x hx => hB x (List.mem_of_mem_drop hx)) X hX
theorem yF {B : List Int} (hl : B.length ≤ 4194304) (hB : av B) : av (aQ.iH B) := ru _ (pq 64 (by omega) hB)
theorem Kj {B : List Int} {mo mo' : Int} {q : List Int × Int × Int} (hB : av B) (h : jO B mo q) (he : q.2.2 = 0) (hl : (q.1.length : Int) ≤ mo') : jO B mo' q := by
  rcases h with ⟨_, rfl⟩ | ⟨h0, o, ho, rfl⟩
  · exact absurd he (by decide)
  · cases o with
    | error e => exact absurd he (GI ho rfl)
    | ok p =>
      obtain ⟨x, n⟩ := p
      exact .inr ⟨by have : (x.length : Int) ≤ mo' := hl; omega, _, (ye hB ho (oU h0) x n rfl).2.1 hl, rfl⟩
def cP (B : List Int) : List Int := [120, 1] ++ aQ.iH B ++ aL.kF B
theorem xW (B : List Int) : cP B = 120 :: 1 :: (aQ.iH B ++ aL.kF B) := by simp [cP]
theorem n7 {B : List Int} (h : B.length ≤ 4194304) : (cP B).length = B.length + 5 * ((B.length - 1) / 65535 + 1) + 6 := by
  simp only [cP, List.length_append, aQ.uk h, aL.tE, List.length_cons, List.length_nil]; omega
theorem I9 {B : List Int} {mo : Int} (hB : av B) (hl : B.length ≤ 4194304) (hm : (B.length : Int) ≤ mo) : aL.nZ (cP B) mo (B, 0) := by
  have hs := aQ.uk hl
  have hr := (aQ.GP (t := aL.kF B) hl hB (aL.q9 B)).1
  have hb : av (aQ.iH B ++ aL.kF B) := aQ.av.app (yF hl hB) (aL.q9 B)
  rw [xW]
  refine .inr (.inr ⟨by simp [aL.tE], aL.MW, _, Kj hb hr rfl hm, ?_⟩)
  have e1 : (aQ.iH B ++ aL.kF B).length - (aQ.iH B).length = 4 := by rw [List.length_append, aL.tE]; omega
  have e2 : (aQ.iH B ++ aL.kF B).drop (aQ.iH B).length = aL.kF B := List.drop_left
  simp only [aL.fin, List.drop_succ_cons, List.drop_zero, Int.toNat_natCast, not_true_eq_false, if_false, e1, e2]
  rw [if_neg (by decide), if_neg (by decide), if_pos trivial]
theorem K4 {B : List Int} (hB : av B) (hl : B.length ≤ 4194304) : av (cP B) := by
  rw [xW]
  exact aL.r9 (by decide) (aL.r9 (by decide) (aQ.av.app (yF hl hB) (aL.q9 B)))
end Go.aa
namespace Go.aa
open Go.aj
def two (l : List Int) : List Int := l.flatMap fun s => [s / 256, s % 256]
theorem yr (l : List Int) : (two l).length = 2 * l.length := by
  induction l with
  | nil => rfl
  | cons a l ih => simp only [two, List.flatMap_cons, List.length_append, List.length_cons, List.length_nil] at ih ⊢; omega
theorem yV : ∀ (l : List Int) (m : Nat), m < l.length → (two l).getD (2 * m) 0 = l.getD m 0 / 256 ∧ (two l).getD (2 * m + 1) 0 = l.getD m 0 % 256
  | [], m, h => by simp at h
  | a :: l, 0, _ => ⟨rfl, rfl⟩
  | a :: l, m + 1, h => by
    have ih := yV l m (by simpa using h)
    have e : two (a :: l) = (a / 256) :: (a % 256) :: two l := rfl
    rw [e, show 2 * (m + 1) = 2 * m + 1 + 1 by omega, show 2 * m + 1 + 1 + 1 = (2 * m + 1) + 1 + 1 by omega]
    simpa using ih
def nT (l : List Int) : Prop := ∀ x ∈ l, 0 ≤ x ∧ x < 65536
theorem nT.get {l : List Int} (h : nT l) (i : Nat) : 0 ≤ l.getD i 0 ∧ l.getD i 0 < 65536 := by
  rcases Nat.lt_or_ge i l.length with k | k
  · rw [List.getD_eq_getElem?_getD, List.getElem?_eq_getElem k]; exact h _ (List.getElem_mem k)
  · rw [List.getD_eq_getElem?_getD, List.getElem?_eq_none k]; decide
theorem tX {l : List Int} (h : nT l) : av (two l) := fun x hx => by
  obtain ⟨s, hs, hx⟩ := List.mem_flatMap.1 hx
  have := h s hs
  simp only [List.mem_cons, List.not_mem_nil, or_false] at hx
  rcases hx with rfl | rfl <;> omega
def jb (P : List Int) (W y : Nat) : List Int := two ((P.drop (4 * W * y)).take (4 * W))
def c5 (P : List Int) (W : Nat) : Nat → List Int
  | 0 => []
  | y + 1 => c5 P W y ++ (0 :: jb P W y)
theorem wa {P : List Int} {W H y : Nat} (hP : P.length = 4 * W * H) (hy : y < H) : (jb P W y).length = 8 * W := by
  have : 4 * W * (y + 1) ≤ 4 * W * H := Nat.mul_le_mul_left _ hy
  rw [Nat.mul_succ] at this
  rw [jb, yr, List.length_take, List.length_drop]; omega
theorem rY {P : List Int} {W H : Nat} (hP : P.length = 4 * W * H) : ∀ y, y ≤ H → (c5 P W y).length = y * (1 + 8 * W)
  | 0, _ => by simp [c5]
  | y + 1, h => by
    have e : (y + 1) * (1 + 8 * W) = y * (1 + 8 * W) + (1 + 8 * W) := Nat.succ_mul _ _
    rw [c5, List.length_append, rY hP y (by omega), List.length_cons, wa hP (by omega), e]; omega
theorem rQ (P : List Int) (W y : Nat) : ∀ k, ∃ r, c5 P W (y + k) = c5 P W y ++ r
  | 0 => ⟨[], by simp⟩
  | k + 1 => by
    obtain ⟨r, h⟩ := rQ P W y k
    exact ⟨r ++ (0 :: jb P W (y + k)), by rw [← Nat.add_assoc, c5, h, List.append_assoc]⟩
theorem GQ {P : List Int} {W H y : Nat} (hP : P.length = 4 * W * H) (hy : y < H) : (c5 P W H).getD (y * (1 + 8 * W)) 0 = 0 ∧ ((c5 P W H).drop (y * (1 + 8 * W) + 1)).take (8 * W) = jb P W y := by
  obtain ⟨r, h⟩ := rQ P W (y + 1) (H - (y + 1))
  rw [show y + 1 + (H - (y + 1)) = H by omega, c5, List.append_assoc, List.cons_append] at h
  have hl := rY hP y (by omega)
  have hr := wa hP hy
  rw [h]
  constructor
  · rw [List.getD_eq_getElem?_getD, List.getElem?_append_right (by omega), hl, Nat.sub_self]; rfl
  · rw [← List.drop_drop, ← hl, List.drop_left, List.drop_succ_cons, List.drop_zero, ← hr, List.take_left]
theorem oY {P : List Int} (W : Nat) (h : nT P) : ∀ y, av (c5 P W y)
  | 0 => fun x hx => by cases hx
  | y + 1 => aQ.av.app (oY W h y) (aL.r9 (by decide) (tX (fun x hx => h x (List.mem_of_mem_drop (List.mem_of_mem_take hx)))))
end Go.aa
namespace Go.aa
open Go.aj
theorem Ml {row above : List Int} {back : Nat} (h : av row) : gl 0 row above back = row := by
  have e : ∀ i, i ≤ row.length → jq 0 row above back i = row.take i := by
    intro i
    induction i with
    | zero => intro _; simp [jq]
    | succ i ih =>
      intro hi
      have hb := h.get i
      rw [jq, ih (by omega), ad.kc (by omega)]
      have e0 : ∀ a b c : Int, pe 0 a b c = 0 := fun a b c => by unfold pe; simp
      have e1 : kl 0 row above back (row.take i) i = row.getD i 0 := by
        unfold kl
        rw [e0, Int.add_zero]
        omega
      rw [e1]
  rw [gl, e _ (Nat.le_refl _), List.take_length]
def gg (w h : Int) : Hd := ⟨w, h, 16, 6, false⟩
theorem Ig {P : List Int} {W H y m : Nat} (hP : P.length = 4 * W * H) (hy : y < H) (hm : m < 4 * W) : (jb P W y).getD (2 * m) 0 = P.getD (4 * W * y + m) 0 / 256 ∧ (jb P W y).getD (2 * m + 1) 0 = P.getD (4 * W * y + m) 0 % 256 := by
  have hle : 4 * W * (y + 1) ≤ 4 * W * H := Nat.mul_le_mul_left _ hy
  rw [Nat.mul_succ] at hle
  have hl : ((P.drop (4 * W * y)).take (4 * W)).length = 4 * W := by rw [List.length_take, List.length_drop]; omega
  have h := yV ((P.drop (4 * W * y)).take (4 * W)) m (by omega)
  have e : ((P.drop (4 * W * y)).take (4 * W)).getD m 0 = P.getD (4 * W * y + m) 0 := by
    rw [List.getD_eq_getElem?_getD, List.getD_eq_getElem?_getD, List.getElem?_take_of_lt hm, List.getElem?_drop]
  rw [e] at h
  exact h
theorem II {P : List Int} {W H y x : Nat} (w h : Int) (hU : nT P) (hP : P.length = 4 * W * H) (hy : y < H) (hx : x < W) : fC (gg w h) (jb P W y) x = [P.getD (4 * (W * y + x)) 0, P.getD (4 * (W * y + x) + 1) 0, P.getD (4 * (W * y + x) + 2) 0, P.getD (4 * (W * y + x) + 3) 0] := by
  have hb : av (jb P W y) := tX (fun z hz => hU z (List.mem_of_mem_drop (List.mem_of_mem_take hz)))
  have e : ∀ i, i < 4 → cU (jb P W y) (x * 4 * 16 + i * 16) 16 = P.getD (4 * (W * y + x) + i) 0 := fun i hi => by
    have g := Ig (m := 4 * x + i) hP hy (by omega)
    have hu := hU.get (4 * W * y + (4 * x + i))
    have h16 := qJ (hb.get (8 * x + 2 * i)) (hb.get (8 * x + 2 * i + 1))
    rw [show 8 * x + 2 * i = 2 * (4 * x + i) by omega, g.1, g.2] at h16
    rw [show x * 4 * 16 + i * 16 = 8 * (2 * (4 * x + i)) by omega, h16]
    have e3 : 4 * W * y + (4 * x + i) = 4 * (W * y + x) + i := by rw [Nat.mul_add, ← Nat.mul_assoc]; omega
    rw [e3] at hu ⊢
    omega
  have hp : fC (gg w h) (jb P W y) x = [cU (jb P W y) (x * 4 * 16 + 0 * 16) 16, cU (jb P W y) (x * 4 * 16 + 1 * 16) 16, cU (jb P W y) (x * 4 * 16 + 2 * 16) 16, cU (jb P W y) (x * 4 * 16 + 3 * 16) 16] := rfl
  rw [hp, e 0 (by decide), e 1 (by decide), e 2 (by decide), e 3 (by decide), Nat.add_zero]
theorem Mm (w h : Int) (plte trns : List Int) (a b c d : Int) : iX ⟨gg w h, plte, trns⟩ [a, b, c, d] = some [a, b, c, d] := by
  have e : ∀ v, I8 (gg w h) v = v := fun v => by
    have : (65535 : Int) / (2 ^ (16 : Int).toNat - 1) = 1 := by decide
    simp only [I8, gg, this, Int.mul_one]
  unfold iX
  simp only [gg] at e ⊢
  rw [if_neg (by decide)]
  have hc : bA ⟨w, h, 16, 6, false⟩ trns = [] := by unfold bA; simp
  simp only [hc, List.length_nil, Nat.lt_irrefl, false_and, if_false, List.map_cons, List.map_nil, e]
  rw [if_neg (by decide)]
  simp
def laid (P : List Int) (k : Nat) : List Int := P.take (4 * k) ++ List.replicate (P.length - 4 * k) 0
theorem De {P : List Int} {W : Nat} {y x : Nat} (hk : 4 * (W * y + x) + 4 ≤ P.length) : lE (W : Int) (laid P (W * y + x)) (0 + (x : Int) * 1) (0 + (y : Int) * 1) [P.getD (4 * (W * y + x)) 0, P.getD (4 * (W * y + x) + 1) 0, P.getD (4 * (W * y + x) + 2) 0, P.getD (4 * (W * y + x) + 3) 0] = laid P (W * y + (x + 1)) := by
  have e : (4 * ((0 + (y : Int) * 1) * (W : Int) + (0 + (x : Int) * 1))).toNat = 4 * (W * y + x) := by
    have : 4 * ((0 + (y : Int) * 1) * (W : Int) + (0 + (x : Int) * 1)) = ((4 * (W * y + x) : Nat) : Int) := by
      rw [Int.zero_add, Int.zero_add, Int.mul_one, Int.mul_one, Nat.mul_comm W y]; push_cast; rfl
    rw [this]; rfl
  unfold lE
  rw [e, show W * y + (x + 1) = (W * y + x) + 1 from rfl]
  clear e
  generalize W * y + x = k at hk
  have h1 : (laid P k).take (4 * k) = P.take (4 * k) := by
    unfold laid
    exact List.take_left' (by rw [List.length_take]; omega)
  have h2 : (laid P k).drop (4 * k + 4) = List.replicate (P.length - 4 * (k + 1)) 0 := by
    unfold laid
    rw [List.drop_append, List.drop_of_length_le (by rw [List.length_take]; omega), List.nil_append, List.length_take, List.drop_replicate]
    congr 1
    omega
  rw [h1, h2]
  unfold laid
  congr 1
  have h3 : P.take (4 * (k + 1)) = P.take (4 * k) ++ [P.getD (4 * k) 0] ++ [P.getD (4 * k + 1) 0] ++ [P.getD (4 * k + 2) 0] ++ [P.getD (4 * k + 3) 0] := by
    rw [show 4 * (k + 1) = 4 * k + 1 + 1 + 1 + 1 by omega, ad.kc (by omega), ad.kc (by omega), ad.kc (by omega), ad.kc (by omega)]
  rw [h3]
  simp
theorem BW {P : List Int} {W H y : Nat} (w h : Int) (plte trns : List Int) (p : Ps) (hp : p.x = 0 ∧ p.y = 0 ∧ p.dx = 1 ∧ p.dy = 1) (hw : w = (W : Int)) (hU : nT P) (hP : P.length = 4 * W * H) (hy : y < H) : ∀ k i, i + k = W → gK ⟨gg w h, plte, trns⟩ p (y : Int) (jb P W y) k i (laid P (W * y + i)) = some (laid P (W * y + W))
  | 0, i, hi => by rw [gK, show i = W by omega]
  | k + 1, i, hi => by
    have hle : 4 * W * (y + 1) ≤ 4 * W * H := Nat.mul_le_mul_left _ hy
    rw [Nat.mul_succ, Nat.mul_assoc] at hle
    rw [gK, II w h hU hP hy (by omega), Mm]
    simp only [hp.1, hp.2.1, hp.2.2.1, hp.2.2.2]
    have e : (gg w h).w = (W : Int) := hw
    rw [e, De (by omega)]
    exact BW w h plte trns p hp hw hU hP hy k (i + 1) (by omega)
theorem yk {P : List Int} {W H : Nat} (w h : Int) (plte trns : List Int) (p : Ps) (hp : p.x = 0 ∧ p.y = 0 ∧ p.dx = 1 ∧ p.dy = 1) (hpw : p.w = (W : Int)) (hw : w = (W : Int)) (hU : nT P) (hP : P.length = 4 * W * H) : ∀ k y above, y + k = H → ft ⟨gg w h, plte, trns⟩ (c5 P W H) (8 * W) 8 p k y (y * (1 + 8 * W)) above (laid P (W * y)) = some (H * (1 + 8 * W), laid P (W * H))
  | 0, y, above, hy => by rw [ft, show y = H by omega]
  | k + 1, y, above, hy => by
    have ha := GQ hP (show y < H by omega)
    have hb : av (jb P W y) := tX (fun z hz => hU z (List.mem_of_mem_drop (List.mem_of_mem_take hz)))
    rw [ft, ha.1, if_neg (by decide), ha.2, Ml hb]
    have hpn : p.w.toNat = W := by rw [hpw]; rfl
    have hr := BW w h plte trns p hp hw hU hP (show y < H by omega) W 0 (by omega)
    rw [Nat.add_zero] at hr
    rw [hpn, hr]
    simp only
    have e : y * (1 + 8 * W) + 1 + 8 * W = (y + 1) * (1 + 8 * W) := by rw [Nat.succ_mul y (1 + 8 * W)]; omega
    rw [e, show W * y + W = W * (y + 1) from (Nat.mul_succ _ _).symm]
    exact yk w h plte trns p hp hpw hw hU hP k (y + 1) (jb P W y) (by omega)
theorem Km {P : List Int} {W H : Nat} (plte trns : List Int) (hU : nT P) (hP : P.length = 4 * W * H) : gO ⟨gg (W : Int) (H : Int), plte, trns⟩ (c5 P W H) (whole (W : Int) (H : Int)) 0 (laid P 0) = some P := by
  have e1 : (ff (W : Int) (bitsOf (gg (W : Int) (H : Int)))).toNat = 8 * W := by
    have : bitsOf (gg (W : Int) (H : Int)) = 64 := rfl
    rw [this]; unfold ff; omega
  have e2 : (max 1 (bitsOf (gg (W : Int) (H : Int)) / 8)).toNat = 8 := rfl
  have h := yk (W : Int) (H : Int) plte trns ⟨0, 0, 1, 1, (W : Int), (H : Int)⟩ ⟨rfl, rfl, rfl, rfl⟩ rfl rfl hU hP H 0 [] (by omega)
  rw [Nat.zero_mul, Nat.mul_zero] at h
  have e3 : laid P (W * H) = P := by
    unfold laid
    rw [← Nat.mul_assoc, ← hP, List.take_length, Nat.sub_self]
    simp
  rw [e3] at h
  unfold whole gO
  simp only [e1, e2]
  rw [show ((H : Int)).toNat = H from rfl, h]
  rfl
end Go.aa
namespace Go.aa
open Go.aj
theorem Ga : ej dm := by decide
theorem E7 : ej bS := by decide
theorem FD : ej cu := by decide
theorem PJ : dm ≠ cu := by decide
theorem OJ : bS ≠ cu := by decide
def hB (w h : Int) : List Int := [0, 0, w / 256, w % 256, 0, 0, h / 256, h % 256, 16, 6, 0, 0, 0]
def lB (w h : Int) (z : List Int) : List Ch := [⟨dm, hB w h⟩, ⟨bS, z⟩, ⟨cu, []⟩]
def eQ (P : List Int) (W H : Nat) : List Int := cM (lB (W : Int) (H : Int) (cP (c5 P W H)))
structure Sz (P : List Int) (W H : Nat) : Prop where
  w : 1 ≤ W ∧ W ≤ 256
  h : 1 ≤ H ∧ H ≤ 256
  wh : W * H ≤ 16384
  len : P.length = 4 * W * H
  u : nT P
theorem Fz {W H : Nat} (hw : 1 ≤ W ∧ W ≤ 256) (hh : 1 ≤ H ∧ H ≤ 256) : bj (hB (W : Int) (H : Int)) = gg (W : Int) (H : Int) := by
  unfold bj gg hB
  simp only [aL.dU, List.drop_succ_cons, List.drop_zero, List.getD_cons_zero, List.getD_cons_succ]
  congr 1 <;> first | omega | rfl
theorem Ld {W H : Nat} (hw : 1 ≤ W ∧ W ≤ 256) (hh : 1 ≤ H ∧ H ≤ 256) : av (hB (W : Int) (H : Int)) := fun x hx => by
  simp only [hB, List.mem_cons, List.not_mem_nil, or_false] at hx
  rcases hx with rfl | rfl | rfl | rfl | rfl | rfl | rfl | rfl | rfl | rfl | rfl | rfl | rfl <;> omega
theorem Iq {W H : Nat} (hw : 1 ≤ W ∧ W ≤ 256) (hh : 1 ≤ H ∧ H ≤ 256) (hwh : W * H ≤ 16384) : bN (W : Int) (H : Int) = 0 := by
  unfold bN
  have : (W : Int) ≤ 16384 / (H : Int) := by
    rw [Int.le_ediv_iff_mul_le (by omega)]
    have h2 : ((W * H : Nat) : Int) ≤ 16384 := by omega
    rw [Int.natCast_mul] at h2
    exact h2
  rw [if_neg (by omega), if_neg (by omega)]
theorem Ow {W H : Nat} (hw : 1 ≤ W ∧ W ≤ 256) (hh : 1 ≤ H ∧ H ≤ 256) (hwh : W * H ≤ 16384) : fO (hB (W : Int) (H : Int)) = 0 := by
  unfold fO
  rw [Fz hw hh]
  have e1 : (gg (W : Int) (H : Int)).w = (W : Int) := rfl
  have e2 : (gg (W : Int) (H : Int)).h = (H : Int) := rfl
  have e3 : deep (gg (W : Int) (H : Int)).ax (gg (W : Int) (H : Int)).dep := show deep 6 16 by decide
  have e4 : (hB (W : Int) (H : Int)).getD 10 0 = 0 := rfl
  have e5 : (hB (W : Int) (H : Int)).getD 11 0 = 0 := rfl
  have e6 : (hB (W : Int) (H : Int)).getD 12 0 = 0 := rfl
  rw [if_neg (by unfold hB; simp), e1, e2, e4, e5, e6, if_neg (by rintro (h | h | h | h | h); exact h e3; omega; omega; omega; omega), Iq hw hh hwh, if_pos rfl]
theorem HS (w h : Int) (z : List Int) : dN (lB w h z) = true := by
  have e : walk (((lB w h z).drop 1).take ((lB w h z).length - 2)) ⟨false, false, false, false⟩ = some ⟨false, false, true, false⟩ := rfl
  unfold dN
  rw [e]
  rfl
theorem GD (w h : Int) (z : List Int) : oL (gg w h) (cE (lB w h z) bd) (fD (lB w h z) bd) (cE (lB w h z) bR) (fD (lB w h z) bR) := by
  have e1 : fD (lB w h z) bd = false := rfl
  have e2 : fD (lB w h z) bR = false := rfl
  rw [e1, e2]
  unfold oL
  simp [gg]
theorem Ed (w h : Int) (z : List Int) : dh (lB w h z) = z := by
  have : dh (lB w h z) = z ++ [] := rfl
  rw [this, List.append_nil]
theorem yB {P : List Int} {W H : Nat} (s : Sz P W H) : (c5 P W H).length = H * (1 + 8 * W) := rY s.len H (Nat.le_refl _)
theorem LO {W H : Nat} (hw : 1 ≤ W ∧ W ≤ 256) : want (gg (W : Int) (H : Int)) = ((H * (1 + 8 * W) : Nat) : Int) := by
  have e : want (gg (W : Int) (H : Int)) = ([if 0 < (W : Int) then (H : Int) * (1 + ff (W : Int) 64) else 0] : List Int).sum := rfl
  have e2 : ff (W : Int) 64 = 8 * (W : Int) := by unfold ff; omega
  rw [e, if_pos (by omega), e2]
  simp
theorem mL {P : List Int} {W H : Nat} (s : Sz P W H) : (c5 P W H).length ≤ 131328 := by
  have h1 := yB s
  have h2 := s.wh
  have h3 := s.h.2
  have e : H * (1 + 8 * W) = H + 8 * (W * H) := by rw [Nat.mul_add, Nat.mul_one, Nat.mul_comm H (8 * W), Nat.mul_assoc]
  omega
theorem tv {P : List Int} {W H : Nat} (s : Sz P W H) : ∀ c ∈ [(⟨dm, hB (W : Int) (H : Int)⟩ : Ch), ⟨bS, cP (c5 P W H)⟩], mz c ∧ c.k ≠ cu := fun c hc => by
  have hr := mL s
  have hb := K4 (oY W s.u H) (by omega)
  have hl := n7 (B := c5 P W H) (by omega)
  simp only [List.mem_cons, List.not_mem_nil, or_false] at hc
  rcases hc with rfl | rfl
  · exact ⟨⟨Ga, Ld s.w s.h, by simp [hB]⟩, PJ⟩
  · exact ⟨⟨E7, hb, by simp only; omega⟩, OJ⟩
theorem ug : mz ⟨cu, []⟩ := ⟨FD, aQ.jx, by decide⟩
theorem m9 {P : List Int} {W H : Nat} (s : Sz P W H) : (eQ P W H).length = 57 + (cP (c5 P W H)).length := by
  have e : eQ P W H = fx ++ (iq ⟨dm, hB (W : Int) (H : Int)⟩ ++ (iq ⟨bS, cP (c5 P W H)⟩ ++ iq ⟨cu, []⟩)) := by simp [eQ, cM, jG, lB]
  rw [e, List.length_append, List.length_append, List.length_append, lR Ga.1, lR E7.1, lR FD.1]
  simp [fx, hB]
  omega
theorem BG {P : List Int} {W H : Nat} (s : Sz P W H) : cut (eQ P W H) = .ok (lB (W : Int) (H : Int) (cP (c5 P W H))) := by
  have hr := mL s
  have hl := n7 (B := c5 P W H) (by omega)
  have hp := m9 s
  exact DB (l := [⟨dm, hB (W : Int) (H : Int)⟩, ⟨bS, cP (c5 P W H)⟩]) ug rfl (tv s) (by
    have : (eQ P W H).length ≤ 262144 := by omega
    exact this)
theorem uL {P : List Int} {W H : Nat} (s : Sz P W H) : av (eQ P W H) := BD (fun c hc => by
  have hc : c ∈ [(⟨dm, hB (W : Int) (H : Int)⟩ : Ch), ⟨bS, cP (c5 P W H)⟩] ++ [⟨cu, []⟩] := hc
  rcases List.mem_append.1 hc with h | h
  · exact (tv s c h).1
  · rw [List.mem_singleton.1 h]; exact ug)
theorem Ck {P : List Int} {W H : Nat} (s : Sz P W H) : mr (gg (W : Int) (H : Int)) = laid P 0 := by
  have e : (4 * (W : Int) * (H : Int)).toNat = P.length := by
    have : 4 * (W : Int) * (H : Int) = ((4 * W * H : Nat) : Int) := by push_cast; rfl
    rw [this, s.len]; rfl
  unfold mr laid
  simp only [gg, e, Nat.mul_zero, List.take_zero, List.nil_append, Nat.sub_zero]
theorem uO {P : List Int} {W H : Nat} (s : Sz P W H) : nq (eQ P W H) (⟨(W : Int), (H : Int), P⟩, 0) := by
  have hr := mL s
  have hrl := yB s
  have hw := LO (H := H) s.w
  have hd : (((lB (W : Int) (H : Int) (cP (c5 P W H))).map Ch.d).getD 0 []) = hB (W : Int) (H : Int) := rfl
  unfold nq
  rw [BG s]
  simp only [hd, Fz s.w s.h, Ow s.w s.h s.wh, Ed]
  rw [if_neg (by rw [HS]; decide), if_neg (fun h => h rfl), if_neg (fun h => h (GD _ _ _))]
  have hwant : fQ (bg (gg (W : Int) (H : Int))) (bitsOf (gg (W : Int) (H : Int))) = (((c5 P W H).length : Nat) : Int) := by rw [hrl]; exact hw
  rw [hwant]
  refine ⟨(c5 P W H, 0), I9 (oY W s.u H) (by omega) (Int.le_refl _), ?_⟩
  rw [if_neg (fun h => h rfl), if_neg (Int.lt_irrefl _)]
  have hdr := Km (cE (lB (W : Int) (H : Int) (cP (c5 P W H))) bd) (cE (lB (W : Int) (H : Int) (cP (c5 P W H))) bR) s.u s.len
  have h0 := Ck s
  unfold mr at h0
  have hp : bg (gg (W : Int) (H : Int)) = whole (W : Int) (H : Int) := rfl
  rw [hp, h0]
  simp only
  rw [hdr]
  rfl
end Go.aa
namespace Go.aa
open Go.aj
theorem uI {x : Int} (h0 : 0 ≤ x ∧ x < 4294967296) : IntKind.u32.wrap ((BitVec.ofInt IntKind.u32.bits x &&& BitVec.ofInt IntKind.u32.bits 1).toNat : Int) = x % 2 := by
  obtain ⟨a, rfl⟩ : ∃ a : Nat, x = (a : Int) := ⟨x.toNat, by omega⟩
  have e : IntKind.u32.bits = 32 := rfl
  have e1 : BitVec.ofInt 32 1 = BitVec.ofInt 32 ((1 : Nat) : Int) := rfl
  rw [e, e1, BitVec.toNat_and, eC, eC, Nat.mod_eq_of_lt (by omega), Nat.mod_eq_of_lt (by omega), Nat.and_one_is_mod, aL.wrap32 (by omega) (by omega)]
  omega
theorem lT {x r : Int} {n : Nat} {d : Int} (hd : d = (n : Int)) (hn : n ≤ 32) (hr : x / 2 ^ n = r) : x.fdiv (2 ^ (min d.toNat IntKind.u32.bits)) = r := by rw [aL.zY hd hn, hr]
theorem ew (n : Int) : IntKind.u8.wrap n = n % 256 := rfl
def gJ (k : Nat) (x : Int) : Int := ((kE k x.toNat : Nat) : Int)
theorem Fx {x : Int} (h : 0 ≤ x) : gJ 0 x = x := by unfold gJ kE; omega
theorem FT (x : Int) : gJ 8 x = gM x := rfl
theorem Ca {x : Int} (h : 0 ≤ x ∧ x < 4294967296) (k : Nat) : 0 ≤ gJ k x ∧ gJ k x < 4294967296 := by
  have := Ab (x := x.toNat) (by omega) k
  unfold gJ; omega
theorem yN {x : Int} {k : Nat} (h : gJ k x % 2 = 1) : gJ (k + 1) x = eB (gJ k x / 2) 3988292384 := by
  have h2 : kE k x.toNat % 2 = 1 := by unfold gJ at h; omega
  have e : ((kE k x.toNat : Nat) : Int) / 2 = ((kE k x.toNat / 2 : Nat) : Int) := by omega
  unfold gJ eB
  rw [kE, qt, if_pos h2, e, Int.toNat_natCast]
  rfl
theorem wi {x : Int} {k : Nat} (h : ¬ gJ k x % 2 = 1) : gJ (k + 1) x = gJ k x / 2 := by
  have h2 : ¬ kE k x.toNat % 2 = 1 := by unfold gJ at h; omega
  unfold gJ
  rw [kE, qt, if_neg h2]
  omega
def im (i : Nat) : List Int := (List.range i).map (fun j => gM (j : Nat)) ++ List.replicate (256 - i) 0
def eR : List Int := im 256
theorem wY {i : Nat} (h : i ≤ 256) : (im i).length = 256 := by simp [im]; omega
theorem Mb : im 0 = List.replicate 256 0 := rfl
theorem Dx {i : Nat} (h : i < 256) : (im i).set i (gM (i : Nat)) = im (i + 1) := by
  unfold im
  rw [List.set_append_right _ _ (by simp), List.length_map, List.length_range, Nat.sub_self, show 256 - i = (256 - (i + 1)) + 1 by omega, List.replicate_succ, List.set_cons_zero, List.range_succ, List.map_append]
  simp
theorem DY {x : Int} (h : 0 ≤ x ∧ x < 256) : eR.getD x.toNat 0 = gM x := by
  obtain ⟨n, rfl⟩ : ∃ n : Nat, x = (n : Int) := ⟨x.toNat, by omega⟩
  have hn : n < 256 := by omega
  have : eR = (List.range 256).map (fun j => gM (j : Nat)) := by unfold eR im; simp
  rw [this, Int.toNat_natCast, List.getD_eq_getElem?_getD, List.getElem?_map, List.getElem?_range hn]
  rfl
theorem aV {l : List Int} (h : av l) : ∀ x ∈ l, 0 ≤ x ∧ x < 256 := h
theorem Hr : im 256 = eR := rfl
theorem fF {l : List Int} (h : av l) (i : Nat) : av (l.take i) := fun x hx => h x (List.mem_of_mem_take hx)
theorem Gc : eR.length = 256 := wY (Nat.le_refl _)
theorem K0 {a b : Int} (ha : 0 ≤ a ∧ a < 256) (hb : 0 ≤ b ∧ b < 256) : 0 ≤ eB a b ∧ eB a b < 256 := pU (n := 8) ha hb
theorem Hf {a b : Int} (ha : 0 ≤ a ∧ a < 4294967296) (hb : 0 ≤ b ∧ b < 4294967296) : 0 ≤ eB a b ∧ eB a b < 4294967296 := pU (n := 32) ha hb
end Go.aa
namespace Go.aa
open Go.aj
theorem IX (c : Int) : (97 ≤ c ∧ c ≤ 122) ∨ (97 ≤ c ∧ ¬ c ≤ 122) ∨ (¬ 97 ≤ c ∧ 65 ≤ c ∧ c ≤ 90) ∨ (¬ 97 ≤ c ∧ 65 ≤ c ∧ ¬ c ≤ 90) ∨ (¬ 97 ≤ c ∧ ¬ 65 ≤ c) := by omega
theorem uc {k : List Int} {i : Nat} (h : ¬ kx (k.getD i 0)) (hi : i < k.length) : ¬ ej k := fun hn => h (by
  rw [List.getD_eq_getElem?_getD, List.getElem?_eq_getElem hi]
  exact hn.2 _ (List.getElem_mem hi))
theorem yG {k : List Int} (h : ∀ j, j < k.length → kx (k.getD j 0)) : ej k ↔ k.length = 4 := by
  constructor
  · exact fun h => h.1
  · refine fun h4 => ⟨h4, fun c hc => ?_⟩
    obtain ⟨j, hj, rfl⟩ := List.getElem_of_mem hc
    have := h j hj
    rwa [List.getD_eq_getElem?_getD, List.getElem?_eq_getElem hj] at this
theorem Nx {k : List Int} {t : Bool} (ht : t = decide (ej k)) (h : ∀ j, j < k.length → kx (k.getD j 0)) : decide ((k.length : Int) = 4) = t := by
  rw [ht]
  have := yG h
  by_cases h4 : k.length = 4
  · rw [decide_eq_true (this.2 h4), decide_eq_true (by omega)]
  · rw [decide_eq_false (fun hh => h4 (this.1 hh)), decide_eq_false (by omega)]
def ac (B : List Int) : Nat → Int
  | 0 => 0
  | i + 1 => ac B i * 256 + B.getD i 0
theorem Py (B : List Int) : ac B 4 = aL.dU B := by simp only [ac, aL.dU]; omega
theorem MR {B : List Int} (hB : av B) {i : Nat} (hi : i < 4) : 0 ≤ ac B i ∧ ac B i < 16777216 := by
  have h0 := hB.get 0; have h1 := hB.get 1; have h2 := hB.get 2
  have : i = 0 ∨ i = 1 ∨ i = 2 ∨ i = 3 := by omega
  rcases this with rfl | rfl | rfl | rfl <;> simp only [ac] <;> omega
theorem A8 {B : List Int} {n i : Nat} (h : i < n) : (B.take n).getD i 0 = B.getD i 0 := by
  rw [List.getD_eq_getElem?_getD, List.getD_eq_getElem?_getD, List.getElem?_take_of_lt h]
end Go.aa
namespace Go.aa
open Go.aj
theorem xn {L : List Int} (hL : av L) : (L.length < 12 ∧ first L = .error 2) ∨
    (∃ n : Nat, 12 ≤ L.length ∧ aL.dU L = (n : Int) ∧ n < 4294967296 ∧ 2147483647 < n ∧ first L = .error 4) ∨
    (∃ n : Nat, 12 ≤ L.length ∧ aL.dU L = (n : Int) ∧ n ≤ 2147483647 ∧ ¬ ej ((L.drop 4).take 4) ∧ first L = .error 4) ∨
    (∃ n : Nat, 12 ≤ L.length ∧ aL.dU L = (n : Int) ∧ n ≤ 2147483647 ∧ ej ((L.drop 4).take 4) ∧ L.length < 12 + n ∧ first L = .error 2) ∨
    (∃ n : Nat, 12 ≤ L.length ∧ aL.dU L = (n : Int) ∧ n ≤ 2147483647 ∧ ej ((L.drop 4).take 4) ∧ 12 + n ≤ L.length ∧ aL.dU (L.drop (8 + n)) = ia ((L.drop 4).take 4) ((L.drop 8).take n) ∧ first L = .ok ⟨(L.drop 4).take 4, (L.drop 8).take n⟩) ∨
    (∃ n : Nat, 12 ≤ L.length ∧ aL.dU L = (n : Int) ∧ n ≤ 2147483647 ∧ ej ((L.drop 4).take 4) ∧ 12 + n ≤ L.length ∧ ¬ aL.dU (L.drop (8 + n)) = ia ((L.drop 4).take 4) ((L.drop 8).take n) ∧ first L = .error 5) := by
  rcases Iz hL with h | ⟨n, h12, hn, hb, ⟨h1, h2⟩ | ⟨h1, h2, h3⟩ | ⟨h1, h2, h3, h4⟩ | ⟨h1, h2, h3, h4, h5⟩ | ⟨h1, h2, h3, h4, h5⟩⟩
  · exact .inl h
  · exact .inr (.inl ⟨n, h12, hn, hb, h1, h2⟩)
  · exact .inr (.inr (.inl ⟨n, h12, hn, h1, h2, h3⟩))
  · exact .inr (.inr (.inr (.inl ⟨n, h12, hn, h1, h2, h3, h4⟩)))
  · exact .inr (.inr (.inr (.inr (.inl ⟨n, h12, hn, h5, h2, h1, h3, h4⟩))))
  · exact .inr (.inr (.inr (.inr (.inr ⟨n, h12, hn, h5, h2, h1, h3, h4⟩))))
theorem ek {l : List Int} (h : av l) (i : Nat) : av (l.drop i) := fun x hx => h x (List.mem_of_mem_drop hx)
theorem iy {l : List Int} {i n : Nat} (h : i + n ≤ l.length) : ((l.drop i).take n).length = n := by rw [List.length_take, List.length_drop]; omega
end Go.aa
namespace Go.aa
open Go.aj
theorem BM {L : List Int} {x : Ch} (hL : av L) (h : first L = .ok x) : 12 + x.d.length ≤ L.length ∧ ej x.k ∧ av x.d := by
  rcases xn hL with ⟨_, h1⟩ | ⟨n, _, _, _, _, h1⟩ | ⟨n, _, _, _, _, h1⟩ | ⟨n, _, _, _, _, _, h1⟩ | ⟨n, _, _, _, h2, h3, _, h1⟩ | ⟨n, _, _, _, _, _, _, h1⟩ <;> rw [h1] at h <;> cases h
  refine ⟨?_, h2, fF (ek hL 8) n⟩
  have := iy (l := L) (i := 8) (n := n) (by omega)
  show 12 + ((L.drop 8).take n).length ≤ _
  omega
theorem Em {L : List Int} {e : Int} (hL : av L) (h : first L = .error e) : e ≠ 0 := by
  rcases xn hL with ⟨_, h1⟩ | ⟨n, _, _, _, _, h1⟩ | ⟨n, _, _, _, _, h1⟩ | ⟨n, _, _, _, _, _, h1⟩ | ⟨n, _, _, _, h2, h3, _, h1⟩ | ⟨n, _, _, _, _, _, _, h1⟩ <;> rw [h1] at h <;> cases h <;> decide
theorem O1 {Z : List Int} (hZ : av Z) : (∃ e, first Z = .error e ∧ e ≠ 0) ∨ (∃ x, first Z = .ok x ∧ 12 + x.d.length ≤ Z.length ∧ ej x.k ∧ av x.d ∧ x.k ≠ cu) ∨
    (∃ x, first Z = .ok x ∧ 12 + x.d.length = Z.length ∧ ej x.k ∧ av x.d ∧ x.k = cu) ∨ (∃ x, first Z = .ok x ∧ 12 + x.d.length < Z.length ∧ ej x.k ∧ av x.d ∧ x.k = cu) := by
  cases h : first Z with
  | error e => exact .inl ⟨e, rfl, Em hZ h⟩
  | ok x =>
    obtain ⟨h1, h2, h3⟩ := BM hZ h
    by_cases hk : x.k = cu
    · rcases Nat.lt_or_ge (12 + x.d.length) Z.length with h4 | h4
      · exact .inr (.inr (.inr ⟨x, rfl, h4, h2, h3, hk⟩))
      · exact .inr (.inr (.inl ⟨x, rfl, by omega, h2, h3, hk⟩))
    · exact .inr (.inl ⟨x, rfl, h1, h2, h3, hk⟩)
theorem Ij {f : Nat} {Z : List Int} {l : List Ch} {e : Int} (h : first Z = .error e) : gn (f + 1) Z l = .error e := by rw [gn, h]
theorem LS {f : Nat} {Z : List Int} {l : List Ch} {x : Ch} (h : first Z = .ok x) (hk : x.k ≠ cu) : gn (f + 1) Z l = gn f (Z.drop (12 + x.d.length)) (l ++ [x]) := by
  rw [gn, h]; simp only; rw [if_neg hk]
theorem Kp {f : Nat} {Z : List Int} {l : List Ch} {x : Ch} (h : first Z = .ok x) (hk : x.k = cu) (hl : 12 + x.d.length = Z.length) : gn (f + 1) Z l = .ok (l ++ [x]) := by
  rw [gn, h]; simp only; rw [if_pos hk, if_pos (by omega)]
theorem L9 {f : Nat} {Z : List Int} {l : List Ch} {x : Ch} (h : first Z = .ok x) (hk : x.k = cu) (hl : 12 + x.d.length < Z.length) : gn (f + 1) Z l = .error 4 := by
  rw [gn, h]; simp only; rw [if_pos hk, if_neg (by omega)]
theorem Ih (B : List Int) : (262144 < B.length ∧ cut B = .error 3) ∨ (B.length < 8 ∧ cut B = .error 2) ∨ (B.length ≤ 262144 ∧ 8 ≤ B.length ∧ B.take 8 ≠ fx ∧ cut B = .error 4) ∨ (B.length ≤ 262144 ∧ 8 ≤ B.length ∧ B.take 8 = fx ∧ gn (B.length + 1) (B.drop 8) [] = cut B) := by
  rcases Nat.lt_or_ge 262144 B.length with h | h
  · exact .inl ⟨h, by unfold cut; rw [if_pos h]⟩
  · rcases Nat.lt_or_ge B.length 8 with h2 | h2
    · exact .inr (.inl ⟨h2, by unfold cut; rw [if_neg (by omega), if_pos h2]⟩)
    · by_cases h3 : B.take 8 = fx
      · exact .inr (.inr (.inr ⟨h, h2, h3, by unfold cut; rw [if_neg (by omega), if_neg (by omega), if_pos h3]⟩))
      · exact .inr (.inr (.inl ⟨h, h2, h3, by unfold cut; rw [if_neg (by omega), if_neg (by omega), if_neg h3]⟩))
theorem wG : fx.length = 8 := rfl
theorem se : av fx := by unfold av; decide
theorem xA : av cu := by unfold av; decide
end Go.aa
namespace Go.aa
open Go.aj
theorem Pa {p t i o : Bool} {c : Ch} (h : c.k = bS) : cW ⟨p, t, i, o⟩ c = (⟨p, t, true, o⟩, !o) := by unfold cW; rw [if_pos h]
theorem Mn {p i o : Bool} {c : Ch} (h1 : c.k ≠ bS) (h2 : c.k = bd) : cW ⟨p, true, i, o⟩ c = (⟨p, true, i, i⟩, false) := by unfold cW; rw [if_neg h1, if_pos h2]; rfl
theorem NG {p i o : Bool} {c : Ch} (h1 : c.k ≠ bS) (h2 : c.k = bd) : cW ⟨p, false, i, o⟩ c = (⟨true, false, i, i⟩, !p && !i) := by unfold cW; rw [if_neg h1, if_pos h2]; rfl
theorem PR {p t i o : Bool} {c : Ch} (h1 : c.k ≠ bS) (h2 : c.k ≠ bd) (h3 : c.k = bR) : cW ⟨p, t, i, o⟩ c = (⟨p, true, i, i⟩, !t && !i) := by unfold cW; rw [if_neg h1, if_neg h2, if_pos h3]
theorem Ex {p t i o : Bool} {c : Ch} {r : Bool} (h1 : c.k ≠ bS) (h2 : c.k ≠ bd) (h3 : c.k ≠ bR) (hr : r = (decide (ej c.k) && !decide (gL c.k))) : cW ⟨p, t, i, o⟩ c = (⟨p, t, i, i⟩, r) := by unfold cW; rw [if_neg h1, if_neg h2, if_neg h3, hr]
theorem MB (k : List Int) (t : Bool) : k = bS ∨ (k ≠ bS ∧ k = bd ∧ t = true) ∨ (k ≠ bS ∧ k = bd ∧ t = false) ∨ (k ≠ bS ∧ k ≠ bd ∧ k = bR) ∨ (k ≠ bS ∧ k ≠ bd ∧ k ≠ bR ∧ ¬ ej k) ∨ (k ≠ bS ∧ k ≠ bd ∧ k ≠ bR ∧ ej k ∧ gL k) ∨ (k ≠ bS ∧ k ≠ bd ∧ k ≠ bR ∧ ej k ∧ ¬ gL k) := by
  by_cases h1 : k = bS
  · exact .inl h1
  · by_cases h2 : k = bd
    · cases t
      · exact .inr (.inr (.inl ⟨h1, h2, rfl⟩))
      · exact .inr (.inl ⟨h1, h2, rfl⟩)
    · by_cases h3 : k = bR
      · exact .inr (.inr (.inr (.inl ⟨h1, h2, h3⟩)))
      · by_cases h4 : ej k
        · by_cases h5 : gL k
          · exact .inr (.inr (.inr (.inr (.inr (.inl ⟨h1, h2, h3, h4, h5⟩)))))
          · exact .inr (.inr (.inr (.inr (.inr (.inr ⟨h1, h2, h3, h4, h5⟩)))))
        · exact .inr (.inr (.inr (.inr (.inl ⟨h1, h2, h3, h4⟩))))
theorem yP {k : List Int} (h : ej k) : k.length = 4 := h.1
theorem Kh {k : List Int} {t : Bool} (ht : t = decide (gL k)) (h : ej k) : t = decide (k.getD 0 0 ≤ 90) := by
  rw [ht]
  by_cases h9 : k.getD 0 0 ≤ 90
  · exact (decide_eq_true (show gL k from ⟨h, h9⟩)).trans (decide_eq_true h9).symm
  · exact (decide_eq_false (fun hh : gL k => h9 hh.2)).trans (decide_eq_false h9).symm
theorem Io {k : List Int} {t : Bool} (ht : t = decide (gL k)) (h : ¬ ej k) : t = false := ht.trans (decide_eq_false (fun hh => h hh.1))
theorem OP {k : List Int} (h : ¬ ej k) : false = (decide (ej k) && !decide (gL k)) := by rw [decide_eq_false h]; rfl
theorem Ph {k : List Int} (h : gL k) : false = (decide (ej k) && !decide (gL k)) := by rw [decide_eq_true h]; simp
theorem PI {k : List Int} (h : ej k) (h2 : ¬ gL k) : true = (decide (ej k) && !decide (gL k)) := by rw [decide_eq_true h, decide_eq_false h2]; rfl
theorem kt : av bS := by unfold av; decide
theorem jT : av bd := by unfold av; decide
theorem lK : av bR := by unfold av; decide
theorem GC : av dm := by unfold av; decide
def wQ : Wk := ⟨false, false, false, false⟩
def bb (l : List Ch) : List Ch := (l.drop 1).take (l.length - 2)
def wid (o : Option Wk) : Bool := match o with | some w => w.dh | none => false
theorem Oo (l : List Ch) : (l.length < 3 ∧ dN l = false) ∨ (3 ≤ l.length ∧ ((l.map Ch.k).getD 0 [] ≠ dm) ∧ dN l = false) ∨ (3 ≤ l.length ∧ (l.map Ch.k).getD 0 [] = dm ∧ ¬ ((l.map (·.d.length)).getD 0 0 = 13) ∧ dN l = false) ∨
    (3 ≤ l.length ∧ (l.map Ch.k).getD 0 [] = dm ∧ (l.map (·.d.length)).getD 0 0 = 13 ∧ (l.map Ch.k).getD (l.length - 1) [] ≠ cu ∧ dN l = false) ∨
    (3 ≤ l.length ∧ (l.map Ch.k).getD 0 [] = dm ∧ (l.map (·.d.length)).getD 0 0 = 13 ∧ (l.map Ch.k).getD (l.length - 1) [] = cu ∧ ¬ ((l.map (·.d.length)).getD (l.length - 1) 0 = 0) ∧ dN l = false) ∨
    (3 ≤ l.length ∧ (l.map Ch.k).getD 0 [] = dm ∧ (l.map (·.d.length)).getD 0 0 = 13 ∧ (l.map Ch.k).getD (l.length - 1) [] = cu ∧ (l.map (·.d.length)).getD (l.length - 1) 0 = 0 ∧ dN l = wid (walk (bb l) wQ)) := by
  by_cases h1 : 3 ≤ l.length
  · by_cases h2 : (l.map Ch.k).getD 0 [] = dm
    · by_cases h3 : (l.map (·.d.length)).getD 0 0 = 13
      · by_cases h4 : (l.map Ch.k).getD (l.length - 1) [] = cu
        · by_cases h5 : (l.map (·.d.length)).getD (l.length - 1) 0 = 0
          · refine .inr (.inr (.inr (.inr (.inr ⟨h1, h2, h3, h4, h5, ?_⟩))))
            unfold dN
            rw [h2, h3, h4, h5, decide_eq_true h1, show (dm == dm) = true by decide, show (cu == cu) = true by decide]
            rfl
          · refine .inr (.inr (.inr (.inr (.inl ⟨h1, h2, h3, h4, h5, ?_⟩))))
            unfold dN
            rw [beq_eq_false_iff_ne.2 h5]
            simp
        · refine .inr (.inr (.inr (.inl ⟨h1, h2, h3, h4, ?_⟩)))
          unfold dN
          rw [beq_eq_false_iff_ne.2 h4]
          simp
      · refine .inr (.inr (.inl ⟨h1, h2, h3, ?_⟩))
        unfold dN
        rw [beq_eq_false_iff_ne.2 h3]
        simp
    · refine .inr (.inl ⟨h1, h2, ?_⟩)
      unfold dN
      rw [beq_eq_false_iff_ne.2 h2]
      simp
  · refine .inl ⟨by omega, ?_⟩
    unfold dN
    rw [decide_eq_false h1]
    simp
theorem IK {l : List Ch} {i : Nat} {w : Wk} (c : Ch) (hc : l[i]? = some c) : walk (l.drop i) w = (if (cW w c).2 then walk (l.drop (i + 1)) (cW w c).1 else none) := by
  have hlt := (List.getElem?_eq_some_iff.1 hc).1
  rw [List.drop_eq_getElem_cons hlt, walk]
  have : l[i] = c := by rw [List.getElem?_eq_getElem hlt] at hc; exact Option.some.inj hc
  rw [this]
theorem Au {l : List Ch} {i : Nat} {w : Wk} (h : l.length ≤ i) : walk (l.drop i) w = some w := by rw [List.drop_of_length_le h, walk]
end Go.aa
namespace Go.aa
open Go.aj
def Df (l : List Ch) : Int := if dN l then 0 else 4
theorem qi {l : List Ch} (h : dN l = true) : Df l = 0 := if_pos h
theorem mj {l : List Ch} (h : dN l = false) : Df l = 4 := if_neg (by rw [h]; decide)
theorem Ly (b : Bool) : b = true ∨ b = false := by cases b <;> simp
theorem x7 {l : List Ch} (h : 3 ≤ l.length) : (bb l).length = l.length - 2 := by unfold bb; rw [List.length_take, List.length_drop]; omega
theorem H8 {l : List Ch} {i : Nat} (h : i < l.length - 2) : (bb l)[i]? = l[1 + i]? := by unfold bb; rw [List.getElem?_take_of_lt h, List.getElem?_drop]
theorem CO {l : List Ch} (h : dN l = wid (walk (bb l) wQ)) {w : Wk} (hw : walk (bb l) wQ = some w) : dN l = w.dh := by rw [h, hw]; rfl
theorem JN {l : List Ch} (h : dN l = wid (walk (bb l) wQ)) (hw : walk (bb l) wQ = none) : dN l = false := by rw [h, hw]; rfl
end Go.aa
namespace Go.aa
open Go.aj
def nt (c : Int) : Int := IntKind.u8.wrap ((BitVec.ofInt IntKind.u8.bits c ||| BitVec.ofInt IntKind.u8.bits 32).toNat : Int)
theorem GV : ∀ k : Fin 256, (decide (97 ≤ nt ((k.val : Nat) : Int) ∧ nt ((k.val : Nat) : Int) ≤ 122) == decide (kx ((k.val : Nat) : Int))) = true := by decide +kernel
theorem Gt {c : Int} (h : 0 ≤ c ∧ c < 256) : (97 ≤ nt c ∧ nt c ≤ 122) ↔ kx c := by
  obtain ⟨k, rfl⟩ := aL.rK h
  have := GV k
  rw [beq_iff_eq] at this
  by_cases h1 : kx ((k.val : Nat) : Int)
  · rw [decide_eq_true h1] at this; exact ⟨fun _ => h1, fun _ => of_decide_eq_true this⟩
  · rw [decide_eq_false h1] at this; exact ⟨fun hh => absurd hh (of_decide_eq_false this), fun hh => absurd hh h1⟩
theorem o3 {c : Int} (h : 0 ≤ c ∧ c < 256) : (nt c < 97 ∧ ¬ kx c) ∨ (¬ nt c < 97 ∧ 122 < nt c ∧ ¬ kx c) ∨ (¬ nt c < 97 ∧ ¬ 122 < nt c ∧ kx c) := by
  have := Gt h
  rcases Int.lt_or_le (nt c) 97 with h1 | h1
  · exact .inl ⟨h1, fun hh => by have := this.2 hh; omega⟩
  · rcases Int.lt_or_le 122 (nt c) with h2 | h2
    · exact .inr (.inl ⟨by omega, h2, fun hh => by have := this.2 hh; omega⟩)
    · exact .inr (.inr ⟨by omega, by omega, this.1 ⟨h1, h2⟩⟩)
theorem M4 {k : List Int} (h : ¬ k.length = 4) : ¬ ej k := fun hn => h hn.1
end Go.aa
namespace Go.aa
open Go.aj
variable {n i : Nat} {prev : List Int} {c : Ch} {s : Od}
end Go.aa
namespace Go.aa
open Go.aj Go.Sl
theorem JY {a b A B : Int} (ha : 0 ≤ a ∧ a ≤ A) (hb : 0 ≤ b ∧ b ≤ B) : 0 ≤ a * b ∧ a * b ≤ A * B := ⟨Int.mul_nonneg ha.1 hb.1, Int.mul_le_mul ha.2 hb.2 hb.1 (by omega)⟩
theorem zH (w h : Int) : (w < 1 ∧ bN w h = 1) ∨ (¬ w < 1 ∧ h < 1 ∧ bN w h = 1) ∨ (¬ w < 1 ∧ ¬ h < 1 ∧ 256 < w ∧ bN w h = 6) ∨ (¬ w < 1 ∧ ¬ h < 1 ∧ ¬ 256 < w ∧ 256 < h ∧ bN w h = 6) ∨ (¬ w < 1 ∧ ¬ h < 1 ∧ ¬ 256 < w ∧ ¬ 256 < h ∧ 16384 / h < w ∧ bN w h = 6) ∨ (¬ w < 1 ∧ ¬ h < 1 ∧ ¬ 256 < w ∧ ¬ 256 < h ∧ ¬ 16384 / h < w ∧ bN w h = 0) := by
  unfold bN
  by_cases h1 : w < 1
  · exact .inl ⟨h1, if_pos (.inl h1)⟩
  by_cases h2 : h < 1
  · exact .inr (.inl ⟨h1, h2, if_pos (.inr h2)⟩)
  rw [if_neg (by omega)]
  by_cases h3 : 256 < w
  · exact .inr (.inr (.inl ⟨h1, h2, h3, if_pos (.inl h3)⟩))
  by_cases h4 : 256 < h
  · exact .inr (.inr (.inr (.inl ⟨h1, h2, h3, h4, if_pos (.inr (.inl h4))⟩)))
  by_cases h5 : 16384 / h < w
  · exact .inr (.inr (.inr (.inr (.inl ⟨h1, h2, h3, h4, h5, if_pos (.inr (.inr h5))⟩))))
  · exact .inr (.inr (.inr (.inr (.inr ⟨h1, h2, h3, h4, h5, if_neg (by rintro (h | h | h); exact h3 h; exact h4 h; exact h5 h)⟩))))
theorem jY {w h : Int} (hs : bN w h = 0) : 1 ≤ w ∧ w ≤ 256 ∧ 1 ≤ h ∧ h ≤ 256 ∧ 1 ≤ w * h ∧ w * h ≤ 16384 := by
  rcases zH w h with h | h | h | h | h | ⟨h1, h2, h3, h4, h5, _⟩ <;> try omega
  have hm : w * h ≤ 16384 / h * h := Int.mul_le_mul_of_nonneg_right (by omega) (by omega)
  have hd : 16384 / h * h ≤ 16384 := Int.ediv_mul_le _ (by omega)
  have hp : 0 < w * h := Int.mul_pos (by omega) (by omega)
  omega
theorem qu {w h : Int} (hs : bN w h = 0) : 4 ≤ 4 * w * h ∧ 4 * w * h ≤ 65536 := by
  have := jY hs
  rw [Int.mul_assoc]; omega
theorem sx {h : Int} (h1 : 1 ≤ h) : IntKind.i64.wrap ((16384 : Int).tdiv h) = 16384 / h := by
  rw [Int.tdiv_eq_ediv_of_nonneg (by decide)]
  have := Int.ediv_nonneg (a := 16384) (b := h) (by decide) (by omega)
  have h2 : 16384 / h ≤ 16384 := Int.ediv_le_self _ (by decide)
  exact gR (by omega) (by omega)
def jV (p : Ps) : Prop := 0 ≤ p.x ∧ p.x ≤ 8 ∧ 0 ≤ p.y ∧ p.y ≤ 8 ∧ (p.dx = 1 ∨ p.dx = 2 ∨ p.dx = 4 ∨ p.dx = 8) ∧ (p.dy = 1 ∨ p.dy = 2 ∨ p.dy = 4 ∨ p.dy = 8) ∧ 0 ≤ p.w ∧ p.w ≤ 256 ∧ 0 ≤ p.h ∧ p.h ≤ 256
theorem nX {w bits : Int} (hw : 0 ≤ w ∧ w ≤ 256) (hb : 0 ≤ bits ∧ bits ≤ 64) : 0 ≤ w * bits ∧ w * bits ≤ 16384 ∧ 0 ≤ ff w bits ∧ ff w bits ≤ 2048 := by
  have := JY hw hb
  unfold ff; omega
def tu (bits : Int) (p : Ps) : Int := if 0 < p.w then p.h * (1 + ff p.w bits) else 0
theorem Ar {p : Ps} {bits : Int} (hp : jV p) (hb : 0 ≤ bits ∧ bits ≤ 64) : 0 ≤ tu bits p ∧ tu bits p ≤ 524544 ∧ 0 ≤ p.h * (1 + ff p.w bits) ∧ p.h * (1 + ff p.w bits) ≤ 524544 := by
  obtain ⟨_, _, _, _, _, _, h1, h2, h3, h4⟩ := hp
  have hr := nX (w := p.w) ⟨h1, h2⟩ hb
  have := JY (a := p.h) (b := 1 + ff p.w bits) ⟨h3, h4⟩ (B := 2049) (by omega)
  unfold tu
  split <;> omega
theorem o6 (l : List Ps) (bits : Int) : fQ l bits = (l.map (tu bits)).sum := rfl
theorem yA : ∀ (a b : List Int), (a ++ b).sum = a.sum + b.sum
  | [], b => by simp
  | x :: a, b => by simp [yA a b]; omega
theorem ri {l : List Ps} {bits : Int} {i : Nat} (h : i < l.length) : fQ (l.take (i + 1)) bits = fQ (l.take i) bits + tu bits (l.getD i ⟨0, 0, 0, 0, 0, 0⟩) := by
  rw [o6, o6, List.take_succ_eq_append_getElem h, List.map_append, yA, List.getD_eq_getElem?_getD, List.getElem?_eq_getElem h]
  simp
theorem u0 {l : List Ps} {bits : Int} (hb : 0 ≤ bits ∧ bits ≤ 64) (hl : ∀ p ∈ l, jV p) : 0 ≤ fQ l bits ∧ fQ l bits ≤ 524544 * l.length := by
  induction l with
  | nil => simp [fQ]
  | cons p l ih =>
    have h1 := Ar (hl p (by simp)) hb
    have h2 := ih (fun q hq => hl q (by simp [hq]))
    rw [o6] at h2 ⊢
    simp only [List.map_cons, List.sum_cons, List.length_cons]
    omega
theorem MI {p : Ps} {bits : Int} (h : 0 < p.w) : tu bits p = p.h * (1 + ff p.w bits) := if_pos h
theorem Ng {p : Ps} {bits : Int} (h : ¬ 0 < p.w) : tu bits p = 0 := if_neg h
theorem Cj {x y dx dy w h : Int} (hx : 0 ≤ x ∧ x ≤ 8) (hy : 0 ≤ y ∧ y ≤ 8) (hdx : dx = 1 ∨ dx = 2 ∨ dx = 4 ∨ dx = 8) (hdy : dy = 1 ∨ dy = 2 ∨ dy = 4 ∨ dy = 8) (hw : 0 ≤ w ∧ w ≤ 256) (hh : 0 ≤ h ∧ h ≤ 256) : jV (tn x y dx dy w h) := by
  have a := xO (frm := x) (e := w) hdx
  have b := xO (frm := y) (e := h) hdy
  have c := yc (frm := x) (e := w) hx.1 hw.1 hdx
  have d := yc (frm := y) (e := h) hy.1 hh.1 hdy
  exact ⟨hx.1, hx.2, hy.1, hy.2, hdx, hdy, a, Int.le_trans c hw.2, b, Int.le_trans d hh.2⟩
theorem HN {w h : Int} (hw : 0 ≤ w ∧ w ≤ 256) (hh : 0 ≤ h ∧ h ≤ 256) : ∀ p ∈ jc w h, jV p := by
  intro p hp
  simp only [jc, List.mem_cons, List.not_mem_nil, or_false] at hp
  rcases hp with rfl | rfl | rfl | rfl | rfl | rfl | rfl <;> exact Cj (by decide) (by decide) (by decide) (by decide) hw hh
theorem CZ (w h : Int) : (jc w h).length = 7 := rfl
theorem Bi {w h : Int} (hw : 0 ≤ w ∧ w ≤ 256) (hh : 0 ≤ h ∧ h ≤ 256) : (∀ p ∈ gj w h, jV p) ∧ (gj w h).length ≤ 7 := ⟨fun p hp => HN hw hh p (List.mem_filter.1 hp).1, List.length_filter_le _ _⟩
theorem vD {w h : Int} (hw : 0 ≤ w ∧ w ≤ 256) (hh : 0 ≤ h ∧ h ≤ 256) : (∀ p ∈ whole w h, jV p) ∧ (whole w h).length ≤ 7 := ⟨fun p hp => by
  simp only [whole, List.mem_cons, List.not_mem_nil, or_false] at hp
  subst hp
  exact ⟨Int.le_refl _, (by decide : (0:Int) ≤ 8), Int.le_refl _, (by decide : (0:Int) ≤ 8), .inl rfl, .inl rfl, hw.1, hw.2, hh.1, hh.2⟩, by simp [whole]⟩
def qB (p : Ps) : Bool := decide (0 < p.w) && decide (0 < p.h)
def jw (w h : Int) (i : Nat) : List Ps := ((jc w h).take i).filter qB
theorem LQ (w h : Int) : jw w h 7 = gj w h := rfl
theorem CP (w h : Int) : jw w h 0 = [] := rfl
theorem Dh (w h : Int) (i : Nat) : (jw w h i).length ≤ i := by
  have h1 := List.length_filter_le qB ((jc w h).take i)
  have h2 : ((jc w h).take i).length ≤ i := by rw [List.length_take]; omega
  exact Nat.le_trans h1 h2
theorem Bp {w h : Int} {i : Nat} (hi : i < 7) : jw w h (i + 1) = jw w h i ++ (if qB ((jc w h).getD i ⟨0, 0, 0, 0, 0, 0⟩) then [(jc w h).getD i ⟨0, 0, 0, 0, 0, 0⟩] else []) := by
  unfold jw
  rw [List.take_succ_eq_append_getElem (show i < (jc w h).length from hi), List.filter_append, List.getD_eq_getElem?_getD, List.getElem?_eq_getElem (show i < (jc w h).length from hi), Option.getD_some]
  congr 1
  simp only [List.filter]
  split <;> simp_all
theorem JM (p : Ps) : (¬ 0 < p.w ∧ qB p = false) ∨ (0 < p.w ∧ ¬ 0 < p.h ∧ qB p = false) ∨ (0 < p.w ∧ 0 < p.h ∧ qB p = true) := by
  unfold qB
  by_cases h1 : 0 < p.w
  · by_cases h2 : 0 < p.h
    · exact .inr (.inr ⟨h1, h2, by simp [h1, h2]⟩)
    · exact .inr (.inl ⟨h1, h2, by simp [h2]⟩)
  · exact .inl ⟨h1, by simp [h1]⟩
theorem AZ {w h : Int} {i : Nat} (hi : i < 7) {p : Ps} (hp : (jc w h).getD i ⟨0, 0, 0, 0, 0, 0⟩ = p) (ht : qB p = true) : jw w h i ++ [p] = jw w h (i + 1) := by rw [Bp hi, hp, if_pos ht]
theorem Cw {w h : Int} {i : Nat} (hi : i < 7) {p : Ps} (hp : (jc w h).getD i ⟨0, 0, 0, 0, 0, 0⟩ = p) (ht : qB p = false) : jw w h i = jw w h (i + 1) := by rw [Bp hi, hp, if_neg (by rw [ht]; decide), List.append_nil]
theorem Hx {l : List Ps} (h : ∀ p ∈ l, jV p) {i : Nat} (hi : i < l.length) : jV (l.getD i ⟨0, 0, 0, 0, 0, 0⟩) := by
  rw [List.getD_eq_getElem?_getD, List.getElem?_eq_getElem hi]; exact h _ (List.getElem_mem hi)
theorem No {step e : Int} (hs : step = 1 ∨ step = 2 ∨ step = 4 ∨ step = 8) (frm : Int) (h : e ≤ frm) : many frm step e = 0 := if_pos h
theorem F8 {frm step e : Int} (h : ¬ e ≤ frm) : many frm step e = (e - frm + step - 1) / step := if_neg h
theorem many1 {e : Int} (h : 1 ≤ e) : many 0 1 e = e := by rw [F8 (by omega)]; omega
end Go.aa
namespace Go.aa
open Go.aj
def P7 : List Ps := [⟨0, 0, 8, 8, 0, 0⟩, ⟨4, 0, 8, 8, 0, 0⟩, ⟨0, 4, 4, 8, 0, 0⟩, ⟨2, 0, 4, 4, 0, 0⟩, ⟨0, 2, 2, 4, 0, 0⟩, ⟨1, 0, 2, 2, 0, 0⟩, ⟨0, 1, 1, 2, 0, 0⟩]
theorem sM (c : Int) : (c = 0 ∧ parts c = 1) ∨ (c ≠ 0 ∧ c = 3 ∧ parts c = 1) ∨ (c ≠ 0 ∧ c ≠ 3 ∧ c = 2 ∧ parts c = 3) ∨ (c ≠ 0 ∧ c ≠ 3 ∧ c ≠ 2 ∧ c = 4 ∧ parts c = 2) ∨ (c ≠ 0 ∧ c ≠ 3 ∧ c ≠ 2 ∧ c ≠ 4 ∧ c = 6 ∧ parts c = 4) ∨ (c ≠ 0 ∧ c ≠ 3 ∧ c ≠ 2 ∧ c ≠ 4 ∧ c ≠ 6 ∧ parts c = 0) := by
  unfold parts
  by_cases h0 : c = 0
  · exact .inl ⟨h0, by simp [h0]⟩
  by_cases h3 : c = 3
  · exact .inr (.inl ⟨h0, h3, by simp [h3]⟩)
  by_cases h2 : c = 2
  · exact .inr (.inr (.inl ⟨h0, h3, h2, by simp [h2]⟩))
  by_cases h4 : c = 4
  · exact .inr (.inr (.inr (.inl ⟨h0, h3, h2, h4, by simp [h4]⟩)))
  by_cases h6 : c = 6
  · exact .inr (.inr (.inr (.inr (.inl ⟨h0, h3, h2, h4, h6, by simp [h6]⟩))))
  · exact .inr (.inr (.inr (.inr (.inr ⟨h0, h3, h2, h4, h6, by simp [h0, h3, h2, h4, h6]⟩))))
theorem Nj (c d : Int) : (c = 0 ∧ decide (deep c d) = decide (d ∈ ([1, 2, 4, 8, 16] : List Int))) ∨ (c ≠ 0 ∧ c = 3 ∧ decide (deep c d) = decide (d ∈ ([1, 2, 4, 8] : List Int))) ∨ (c ≠ 0 ∧ c ≠ 3 ∧ ¬ 0 < parts c ∧ decide (deep c d) = false) ∨ (c ≠ 0 ∧ c ≠ 3 ∧ 0 < parts c ∧ d = 8 ∧ decide (deep c d) = true) ∨ (c ≠ 0 ∧ c ≠ 3 ∧ 0 < parts c ∧ ¬ d = 8 ∧ decide (deep c d) = decide (d = 16)) := by
  by_cases h0 : c = 0
  · refine .inl ⟨h0, decide_eq_decide.2 ?_⟩
    unfold deep; simp [h0]
  by_cases h3 : c = 3
  · refine .inr (.inl ⟨h0, h3, decide_eq_decide.2 ?_⟩)
    unfold deep; simp [h3]
  by_cases hp : 0 < parts c
  · have hc : c = 2 ∨ c = 4 ∨ c = 6 := by rcases sM c with h | h | h | h | h | h <;> omega
    by_cases h8 : d = 8
    · exact .inr (.inr (.inr (.inl ⟨h0, h3, hp, h8, decide_eq_true (.inr (.inr ⟨hc, .inl h8⟩))⟩)))
    · refine .inr (.inr (.inr (.inr ⟨h0, h3, hp, h8, decide_eq_decide.2 ?_⟩)))
      unfold deep
      exact ⟨fun h => by rcases h with h | h | h <;> omega, fun h => .inr (.inr ⟨hc, .inr h⟩)⟩
  · refine .inr (.inr (.inl ⟨h0, h3, hp, decide_eq_false ?_⟩))
    unfold deep
    rintro (h | h | h)
    · exact h0 h.1
    · exact h3 h.1
    · have : 0 < parts c := by rcases sM c with g | g | g | g | g | g <;> omega
      exact hp this
theorem IJ {l : List Int} {x : Int} {i : Nat} (h : i < l.length) (e : x = l.getD i 0) : x ∈ l := by
  rw [e, List.getD_eq_getElem?_getD, List.getElem?_eq_getElem h]; exact List.getElem_mem h
theorem Gk {l : List Int} {x : Int} (h : ∀ j, j < l.length → x ≠ l.getD j 0) : x ∉ l := fun hx => by
  obtain ⟨j, hj, e⟩ := List.getElem_of_mem hx
  refine h j hj ?_
  rw [List.getD_eq_getElem?_getD, List.getElem?_eq_getElem hj]; exact e.symm
theorem Ic {l : List Int} {x r : Int} {t : Bool} (ht : t = decide (x ∈ l)) (h : 0 ≤ r ↔ x ∈ l) : decide (0 ≤ r) = t := by rw [ht]; exact decide_eq_decide.2 h
end Go.aa

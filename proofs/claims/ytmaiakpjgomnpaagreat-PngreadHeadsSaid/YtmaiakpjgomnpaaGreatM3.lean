/- Walks of functions that the law reaches, and what they lean on; no conditions. -/
import Derived.Test.YtmaiakpjgomnpaaGreatM2
import Derived.KernelRfl
set_option linter.unusedVariables false
set_option linter.unusedSimpArgs false
set_option maxRecDepth 100000
namespace Go.ad
open Go.ak Go.ag
section
variable {B : List Int} {mo e : Int}
theorem vX {ls : List Int} {a : Nat} (h : sym ls B a = .error e) : e ≠ 0 := by
  unfold sym at h; split at h <;> cases h <;> decide
theorem JR {l : List Int} {s : Int} {a : Nat} (h : rep B s l a = .error e) : e ≠ 0 := by
  unfold rep at h
  split at h
  · cases h
  split at h
  · cases h; decide
  split at h
  · cases h; decide
  · cases h
theorem HO {c : List Int} {tot : Nat} : ∀ {f : Nat} {l : List Int} {a : Nat}, fE B c tot f l a = .error e → e ≠ 0 := by
  intro f
  induction f with
  | zero => intro l a h; cases h
  | succ f ih =>
    intro l a h
    simp only [fE] at h
    split at h
    · rcases zM B c l a with ⟨e2, hs⟩ | ⟨sy, x2, e2, hs, hr⟩ | ⟨sy, x2, v, n, x3, hs, hr⟩
      · rw [sx hs] at h; cases h; exact vX hs
      · rw [rM hs hr] at h; cases h; exact JR hr
      · rw [mY hs hr] at h
        simp only at h
        split at h
        · exact ih h
        · cases h; decide
    · cases h
theorem Ir {a : Nat} (h : told B a = .error e) : e ≠ 0 := by
  unfold told at h
  split at h
  · cases h; decide
  split at h
  · cases h; decide
  split at h
  · cases h; decide
  split at h
  · cases h; decide
  split at h
  · rename_i e2 h2; cases h; exact HO h2
  · split at h
    · cases h; decide
    · cases h
theorem wP {s : St} {y : Int} (h : fa mo s y = .error e) : e ≠ 0 := by
  unfold fa at h; split at h <;> cases h; decide
theorem K3 {s : Int} {a : Nat} (h : ft B s a = .error e) : e ≠ 0 := by
  unfold ft at h
  split at h
  · cases h; decide
  split at h
  · cases h; decide
  · cases h
theorem GP {ds : List Int} {a : Nat} (h : eJ B ds a = .error e) : e ≠ 0 := by
  unfold eJ at h
  split at h
  · rename_i e2 h2; cases h; exact vX h2
  · split at h
    · cases h; decide
    split at h
    · cases h; decide
    · cases h
theorem ED {s : St} (h : dR B s = .error e) : e ≠ 0 := by
  unfold dR at h
  split at h
  · cases h; decide
  split at h
  · split at h
    · cases h; decide
    split at h
    · cases h
    · cases h; decide
  split at h
  · cases h
  split at h
  · split at h
    · rename_i e2 h2; cases h; exact Ir h2
    · cases h
  · cases h; decide
theorem E8 {s : St} (h : fb B mo s = .error e) : e ≠ 0 := by
  rcases gH (sym s.lits B s.at_) with ⟨e2, hs⟩ | ⟨⟨y, a⟩, hs⟩
  · rw [vr hs] at h; cases h; exact vX hs
  by_cases h1 : y < 256
  · rw [ob hs h1] at h; exact wP h
  by_cases h2 : y = 256
  · rw [qS hs h2] at h; cases h
  rcases gH (ft B (y - 257) a) with ⟨e2, hn⟩ | ⟨⟨n, a2⟩, hn⟩
  · rw [vu hs (by omega) hn] at h; cases h; exact K3 hn
  rcases gH (eJ B s.eQ a2) with ⟨e2, hf⟩ | ⟨⟨f, a3⟩, hf⟩
  · rw [vy hs (by omega) hn hf] at h; cases h; exact GP hf
  by_cases h3 : f ≤ s.out.length
  · rw [vm hs (by omega) hn hf h3] at h; cases h
  · rw [vv hs (by omega) hn hf h3] at h; cases h; decide
theorem AU {s : St} (h : one B mo s = .error e) : e ≠ 0 := by
  unfold one at h
  split at h
  · exact wP h
  split at h
  · exact ED h
  split at h
  · exact E8 h
  split at h
  · cases h
  split at h
  · cases h; decide
  · exact wP h
theorem FW {s : St} {w : Nat} {n : Int} {o : Jt} (h : Lp B mo w n s o) : o = .error e → e ≠ 0 := by
  induction h with
  | stop _ => intro h; cases h
  | step _ _ _ _ ih => exact ih
  | fail _ _ h => intro q; cases q; exact AU h
theorem HE {s : St} {o : Oc} (h : ka B mo s o) : o = .error e → e ≠ 0 := by
  induction h with
  | done _ => intro h; cases h
  | step _ _ _ ih => exact ih
  | fail _ h => intro q; cases q; exact AU h
end
def CF (B : List Int) : Jt → Nat
  | .ok s => mu B s + 1
  | .error _ => 0
def Ad : Jt → Nat
  | .ok s => s.out.length
  | .error _ => 0
theorem Ep {B : List Int} {mo : Int} {r : Jt} (hB : az B) (hok : uU B mo r) (n : Int) : ∃ r', Ae B mo n r r' := by
  by_cases hn : n < 1
  · exact ⟨r, .inl ⟨.inl hn, rfl⟩⟩
  cases r with
  | error e => exact ⟨_, .inl ⟨.inr rfl, rfl⟩⟩
  | ok s =>
    cases he : s.ended with
    | true => exact ⟨_, .inl ⟨.inr he, rfl⟩⟩
    | false =>
      obtain ⟨o, ho⟩ := M5 hB s.out.length n _ (Nat.le_refl _) hok
      exact ⟨o, .inr ⟨by omega, s, rfl, he, ho⟩⟩
structure NG (B : List Int) (mo : Int) (s0 : St) (n : Int) (r r' : Jt) : Prop where
  ok : uU B mo r'
  at_ : Bo B mo s0 r'
  le : CF B r' ≤ CF B r
  less : kJ r = false → 1 ≤ n → CF B r' < CF B r
  out : kJ r = false → 1 ≤ n → kJ r' = true ∨ Ad r + 1 ≤ Ad r'
  stay : (n < 1 ∨ kJ r = true) → r' = r
theorem Az {B : List Int} {mo n : Int} {s0 : St} {r r' : Jt} (hB : az B) (hok : uU B mo r) (hat : Bo B mo s0 r) (h : Ae B mo n r r') : NG B mo s0 n r r' := by
  rcases h with ⟨hx, rfl⟩ | ⟨hn, s, rfl, he, hl⟩
  · refine ⟨hok, hat, Nat.le_refl _, fun h1 h2 => ?_, fun h1 h2 => ?_, fun _ => rfl⟩ <;> (exfalso; rcases hx with hx | hx; omega; rw [h1] at hx; cases hx)
  · obtain ⟨k1, k2⟩ := G4 hB hl hok
    cases r' with
    | ok s2 =>
      obtain ⟨m1, m2, m3, m4, m5, m6⟩ := k1 s2 rfl
      have := m5 he (by omega)
      refine ⟨m1, hat.trans m3, by show mu B s2 + 1 ≤ mu B s + 1; omega, fun _ _ => by show mu B s2 + 1 < mu B s + 1; omega, fun _ _ => ?_, fun hx => ?_⟩
      · rcases m4 with m4 | m4
        · exact .inl m4
        · right; show s.out.length + 1 ≤ s2.out.length; omega
      · exfalso; rcases hx with hx | hx
        · omega
        · rw [show kJ (.ok s) = s.ended from rfl, he] at hx; cases hx
    | error e =>
      refine ⟨FW hl rfl, hat _ (k2 e rfl), Nat.zero_le _, fun _ _ => Nat.succ_pos _, fun _ _ => .inl rfl, fun hx => ?_⟩
      exfalso; rcases hx with hx | hx
      · omega
      · rw [show kJ (.ok s) = s.ended from rfl, he] at hx; cases hx
def jU (B : List Int) (mo : Int) (q : List Int × Int × Int) : Prop := (mo < 0 ∧ q = ([], 0, 1)) ∨ (0 ≤ mo ∧ ∃ o, ka B mo start o ∧ q = Ou o)
theorem jU.AO {B : List Int} {mo : Int} {q q' : List Int × Int × Int} (h : jU B mo q) (h' : jU B mo q') : q = q' := by
  rcases h with ⟨a, rfl⟩ | ⟨a, o, r, rfl⟩ <;> rcases h' with ⟨a', rfl⟩ | ⟨a', o', r', rfl⟩
  · rfl
  · omega
  · omega
  · rw [r.AO r']
theorem HG {B : List Int} {mo : Int} {r : Jt} (hm : 0 ≤ mo) (h : Bo B mo start r) (he : kJ r = true) : jU B mo (qG r, rv r, As r) := by
  refine .inr ⟨hm, ?_⟩
  cases r with
  | ok s => exact ⟨.ok (s.out, (s.at_ + 7) / 8), h _ (.done he), by simp only [qG, rv, As, Ou]; rw [if_pos (show s.ended = true from he), if_pos (show s.ended = true from he)]⟩
  | error e => exact ⟨.error e, h, rfl⟩
theorem BZ {B : List Int} {mo : Int} (hB : az B) {s : St} {o : Oc} (h : ka B mo s o) : Ok B mo s → ∀ x n, o = .ok (x, n) → (x.length : Int) ≤ mo ∧ n ≤ B.length ∧ az x := by
  induction h with
  | done h => intro hok x n e; cases e; exact ⟨hok.room, by have := hok.at_; omega, hok.te⟩
  | step h1 h2 h3 ih => intro hok; exact ih (lM hB hok h2).ok
  | fail _ _ => intro _ x n e; cases e
end Go.ad
namespace Go.ad
open Go.ak Go.ag
def RW (mo : Int) : Jt := if mo < 0 then .error 1 else .ok start
structure Way (B : List Int) (mo : Int) (r : Jt) : Prop where
  ok : uU B mo r
  at_ : (0 ≤ mo ∧ Bo B mo start r) ∨ (mo < 0 ∧ r = .error 1)
structure R6 (B : List Int) (mo n : Int) (r r' : Jt) : Prop where
  Su : Way B mo r'
  out : kJ r = false → 1 ≤ n → kJ r' = true ∨ Ad r + 1 ≤ Ad r'
  stay : (n < 1 ∨ kJ r = true) → r' = r
end Go.ad
namespace Go.ad
open Go.ak Go.ag
end Go.ad
namespace Go.ad
open Go.ak Go.ag
def RK : List Int := [3, 4, 5, 6, 7, 8, 9, 10, 11, 13, 15, 17, 19, 23, 27, 31, 35, 43, 51, 59, 67, 83, 99, 115, 131, 163, 195, 227, 258]
def RI : List Int := [0, 0, 0, 0, 0, 0, 0, 0, 1, 1, 1, 1, 2, 2, 2, 2, 3, 3, 3, 3, 4, 4, 4, 4, 5, 5, 5, 5, 0]
structure Dn (B : List Int) (mo : Int) (S S' : St) : Prop where
  Aa : iA B mo S S'
  ok : Ok B mo S'
  kind : S'.kind = -1
  aB : S'.aB = 0
  ended : S'.ended = S'.last
  last : S'.last = S.last
structure In (B : List Int) (mo : Int) (S s : St) : Prop where
  Aa : iA B mo S s
  ok : Ok B mo s
  kind : s.kind = S.kind
  aB : s.aB = 0
  ended : s.ended = false
  last : s.last = S.last
  lits : s.lits = S.lits
  eQ : s.eQ = S.eQ
section
variable {B : List Int} {mo e : Int} {S s s2 : St}
end
end Go.ad
namespace Go.ad
open Go.ak Go.ag
inductive Bl (B : List Int) (mo : Int) : St → Except Int St → Prop
  | done {s : St} : s.kind = -1 → Bl B mo s (.ok s)
  | step {s s' : St} {o : Except Int St} : ¬ s.kind = -1 → one B mo s = .ok s' → Bl B mo s' o → Bl B mo s o
  | fail {s : St} {e : Int} : ¬ s.kind = -1 → one B mo s = .error e → Bl B mo s (.error e)
section
variable {B : List Int} {mo e : Int} {s s2 : St} {o : Except Int St}
structure Left (B : List Int) (mo : Int) (s s2 : St) : Prop where
  Aa : iA B mo s s2
  ok : Ok B mo s2
  kind : s2.kind = -1
  aB : s2.aB = 0
  ended : s2.ended = s2.last
  last : s2.last = s.last
  less : mu B s2 ≤ mu B s
end
def BO (B : List Int) (mo : Int) (S : St) (o : Except Int St) : Prop := (∃ e, dR B S = .error e ∧ o = .error e) ∨ (∃ S1, dR B S = .ok S1 ∧ Bl B mo S1 o)
section
variable {B : List Int} {mo e : Int} {S S1 : St} {o : Except Int St}
end
section
variable {B ds : List Int} {s d : Int} {a a3 n : Nat}
end
end Go.ad
namespace Go.ad
end Go.ad
namespace Go.ad
end Go.ad
namespace Go.ad
open Go.ak
end Go.ad
namespace Go.ad
open Go.ak Go.ag
def run (B : List Int) (mo : Int) : Nat → St → Option Oc
  | 0, _ => none
  | f + 1, s => if s.ended = true then some (.ok (s.out, (s.at_ + 7) / 8)) else match one B mo s with
    | .error e => some (.error e)
    | .ok s' => run B mo f s'
def RP (B : List Int) (mo : Int) (f : Nat) (q : List Int × Int × Int) : Bool := match run B mo f start with
  | some o => decide (Ou o = q)
  | none => false
end Go.ad
namespace Go.ad
end Go.ad
namespace Go.ad
open Go.ak Go.ag
section
variable {B : List Int} {mo mo' y : Int} {s s2 : St}
theorem xn (h : fa mo s y = .ok s2) : ((s2.out.length : Int) ≤ mo' → fa mo' s y = .ok s2) ∧ (mo' < s2.out.length → fa mo' s y = .error 6) := by
  obtain ⟨k, rfl⟩ := qi h
  have hl : ({ s with out := s.out ++ [y] } : St).out.length = s.out.length + 1 := by simp
  rw [hl]
  exact ⟨fun h => mL (by omega), fun h => mX (by omega)⟩
theorem ER (h : fb B mo s = .ok s2) (hs : (s.out.length : Int) ≤ mo') : ((s2.out.length : Int) ≤ mo' → fb B mo' s = .ok s2) ∧ (mo' < s2.out.length → fb B mo' s = .error 6) := by
  rcases gH (sym s.lits B s.at_) with ⟨e, h1⟩ | ⟨⟨y, a⟩, h1⟩
  · rw [vr h1] at h; cases h
  by_cases hy : y < 256
  · rw [ob h1 hy] at h ⊢; exact xn h
  by_cases hy2 : y = 256
  · rw [qS h1 hy2] at h ⊢; cases h; exact ⟨fun _ => rfl, fun k => by simp only at k; omega⟩
  rcases gH (ft B (y - 257) a) with ⟨e, hn⟩ | ⟨⟨n, a2⟩, hn⟩
  · rw [vu h1 (by omega) hn] at h; cases h
  rcases gH (eJ B s.eQ a2) with ⟨e, hf⟩ | ⟨⟨f, a3⟩, hf⟩
  · rw [vy h1 (by omega) hn hf] at h; cases h
  by_cases hfo : f ≤ s.out.length
  · rw [vm h1 (by omega) hn hf hfo] at h ⊢; cases h; exact ⟨fun _ => rfl, fun k => by simp only at k; omega⟩
  · rw [vv h1 (by omega) hn hf hfo] at h; cases h
theorem vH (h : one B mo s = .ok s2) (hs : (s.out.length : Int) ≤ mo') : ((s2.out.length : Int) ≤ mo' → one B mo' s = .ok s2) ∧ (mo' < s2.out.length → one B mo' s = .error 6) := by
  by_cases hc : 0 < s.aB
  · unfold one at h ⊢; rw [if_pos hc] at h ⊢; exact xn h
  by_cases hk : s.kind = -1
  · rw [sI hc hk] at h ⊢
    refine ⟨fun _ => h, fun k => ?_⟩
    exfalso
    have : s2.out = s.out := by
      unfold dR at h
      split at h
      · cases h
      split at h
      · split at h
        · cases h
        split at h
        · cases h; rfl
        · cases h
      split at h
      · cases h; rfl
      split at h
      · split at h
        · cases h
        · cases h; rfl
      · cases h
    rw [this] at k; omega
  by_cases hk0 : s.kind = 0
  · by_cases hl : s.left = 0
    · rw [tA hc hk hk0 hl] at h ⊢; cases h; exact ⟨fun _ => rfl, fun k => by simp only at k; omega⟩
    · by_cases hx : 8 * B.length < s.at_ + 8
      · rw [xe hc hk hk0 hl hx] at h; cases h
      · rw [tB hc hk hk0 hl (by omega)] at h ⊢; exact xn h
  · rw [vw hc hk hk0] at h ⊢; exact ER h hs
theorem yW {o : Oc} (hB : az B) (h : ka B mo s o) : Ok B mo s → ∀ x n, o = .ok (x, n) → s.out.length ≤ x.length ∧ ((x.length : Int) ≤ mo' → ka B mo' s (.ok (x, n))) ∧ ((s.out.length : Int) ≤ mo' → mo' < x.length → ka B mo' s (.error 6)) := by
  induction h with
  | done h => intro hok x n e; cases e; exact ⟨Nat.le_refl _, fun _ => .done h, fun h1 h2 => by omega⟩
  | step h1 h2 h3 ih =>
    intro hok x n e
    have hg := lM hB hok h2
    obtain ⟨k1, k2, k3⟩ := ih hg.ok x n e
    have hle := hg.le
    refine ⟨by omega, fun k => .step h1 ((vH h2 (by omega)).1 (by omega)) (k2 k), fun q1 q2 => ?_⟩
    rename_i s' _
    by_cases hc : mo' < s'.out.length
    · exact .fail h1 ((vH h2 q1).2 hc)
    · exact .step h1 ((vH h2 q1).1 (by omega)) (k3 (by omega) q2)
  | fail _ _ => intro _ x n e; cases e
end
end Go.ad
namespace Go.ad
open Go.ak Go.ag
section
variable {B : List Int}
theorem jy (j i : Nat) (hi : i < 8) : jk B (8 * j + i) = B.getD j 0 / 2 ^ i % 2 := by
  unfold jk
  rw [show (8 * j + i) / 8 = j by omega, show (8 * j + i) % 8 = i by omega]
theorem sY (a m : Nat) : ∀ n, aV B a (m + n) = aV B a m + aV B (a + m) n * 2 ^ m
  | 0 => by simp [aV]
  | n + 1 => by
    have := sY a m n
    show aV B a (m + n) + jk B (a + (m + n)) * 2 ^ (m + n) = aV B a m + (aV B (a + m) n + jk B (a + m + n) * 2 ^ n) * 2 ^ m
    rw [this, Int.add_mul, Int.add_assoc, Nat.add_assoc a m n, Int.mul_assoc, ← Int.pow_add, Nat.add_comm n m]
theorem xG {j : Nat} (hb : 0 ≤ B.getD j 0 ∧ B.getD j 0 < 256) : aV B (8 * j) 8 = B.getD j 0 := by
  simp only [aV]
  rw [show 8 * j + 0 = 8 * j + 0 from rfl, jy j 0 (by omega), jy j 1 (by omega), jy j 2 (by omega), jy j 3 (by omega), jy j 4 (by omega), jy j 5 (by omega), jy j 6 (by omega), jy j 7 (by omega)]
  generalize B.getD j 0 = b at hb ⊢
  simp only [show (2 : Int) ^ 0 = 1 from rfl, show (2 : Int) ^ 1 = 2 from rfl, show (2 : Int) ^ 2 = 4 from rfl, show (2 : Int) ^ 3 = 8 from rfl, show (2 : Int) ^ 4 = 16 from rfl, show (2 : Int) ^ 5 = 32 from rfl, show (2 : Int) ^ 6 = 64 from rfl, show (2 : Int) ^ 7 = 128 from rfl]
  omega
theorem yQ {j : Nat} (hb : 0 ≤ B.getD j 0 ∧ B.getD j 0 < 256) (hc : 0 ≤ B.getD (j + 1) 0 ∧ B.getD (j + 1) 0 < 256) : aV B (8 * j) 16 = B.getD j 0 + 256 * B.getD (j + 1) 0 := by
  rw [show (16 : Nat) = 8 + 8 from rfl, sY, xG hb, show 8 * j + 8 = 8 * (j + 1) by omega, xG hc]
  omega
theorem DF {mo : Int} (hB : az B) : ∀ (X : List Int) {s : St} {pos : Nat}, s.kind = 0 → s.aB = 0 → s.ended = false → s.left = X.length → s.at_ = 8 * pos → (∀ i, i < X.length → B.getD (pos + i) 0 = X.getD i 0) → pos + X.length ≤ B.length → (s.out.length : Int) + X.length ≤ mo →
    ∃ s', iA B mo s s' ∧ s'.at_ = 8 * (pos + X.length) ∧ s'.out = s.out ++ X ∧ s'.kind = -1 ∧ s'.aB = 0 ∧ s'.ended = s.last := by
  intro X
  induction X with
  | nil =>
    intro s pos hk hc he hl ha hx hp hm
    have h1 := tA (B := B) (mo := mo) (s := s) (by omega) (by omega) hk hl
    exact ⟨_, iA.one he h1, by simpa using ha, by simp, rfl, hc, rfl⟩
  | cons x X ih =>
    intro s pos hk hc he hl ha hx hp hm
    have hx0 : B.getD pos 0 = x := by simpa using hx 0 (by simp)
    have hp2 : pos + (X.length + 1) ≤ B.length := by simpa using hp
    have hl2 : s.left = X.length + 1 := by simpa using hl
    have hm2 : (s.out.length : Int) + (X.length + 1) ≤ mo := by simpa using hm
    have h1 := Bm (B := B) (mo := mo) (s := s) (by omega) (by omega) hk (by omega) (by omega) (by omega)
    rw [ha, xG (hB.get pos), hx0] at h1
    obtain ⟨s', g, a1, a2, a3, a4, a5⟩ := ih (s := { s with at_ := 8 * pos + 8, left := s.left - 1, out := s.out ++ [x] }) (pos := pos + 1) hk hc he (by show s.left - 1 = X.length; omega) (by show 8 * pos + 8 = 8 * (pos + 1); omega) (fun i hi => by
      have := hx (i + 1) (by simp; omega)
      rw [show pos + 1 + i = pos + (i + 1) by omega, this]; simp) (by omega) (by show ((s.out ++ [x]).length : Int) + X.length ≤ mo; simp; omega)
    exact ⟨s', (iA.one he h1).trans g, by rw [a1]; simp; omega, by rw [a2]; simp, a3, a4, a5⟩
def gj (la : Int) (X : List Int) : List Int := [la, (X.length : Int) % 256, (X.length : Int) / 256, 255 - (X.length : Int) % 256, 255 - (X.length : Int) / 256] ++ X
theorem k7 (la : Int) (X : List Int) : (gj la X).length = 5 + X.length := by simp [gj]; omega
theorem u4 {mo : Int} (hB : az B) {s : St} {pos : Nat} {la : Int} {X : List Int} (hla : la = 0 ∨ la = 1) (hX : X.length ≤ 65535) (hk : s.kind = -1) (hc : s.aB = 0) (he : s.ended = false) (ha : s.at_ = 8 * pos) (hx : ∀ i, i < (gj la X).length → B.getD (pos + i) 0 = (gj la X).getD i 0) (hp : pos + (gj la X).length ≤ B.length) (hm : (s.out.length : Int) + X.length ≤ mo) :
    ∃ s', iA B mo s s' ∧ s'.at_ = 8 * (pos + (gj la X).length) ∧ s'.out = s.out ++ X ∧ s'.kind = -1 ∧ s'.aB = 0 ∧ s'.ended = decide (la = 1) := by
  have hbl := k7 la X
  have b0 : B.getD pos 0 = la := by simpa [gj] using hx 0 (by omega)
  have b1 : B.getD (pos + 1) 0 = (X.length : Int) % 256 := by simpa [gj] using hx 1 (by omega)
  have b2 : B.getD (pos + 2) 0 = (X.length : Int) / 256 := by simpa [gj] using hx 2 (by omega)
  have b3 : B.getD (pos + 3) 0 = 255 - (X.length : Int) % 256 := by simpa [gj] using hx 3 (by omega)
  have b4 : B.getD (pos + 4) 0 = 255 - (X.length : Int) / 256 := by simpa [gj] using hx 4 (by omega)
  have e0 : aV B s.at_ 1 = la := by
    rw [ha, wU, show 8 * pos = 8 * pos + 0 from rfl, jy pos 0 (by omega), b0]
    rcases hla with rfl | rfl <;> rfl
  have e1 : aV B (s.at_ + 1) 2 = 0 := by
    rw [ha]
    simp only [aV]
    rw [show 8 * pos + 1 + 0 = 8 * pos + 1 from rfl, show 8 * pos + 1 + 1 = 8 * pos + 2 from rfl, jy pos 1 (by omega), jy pos 2 (by omega), b0]
    rcases hla with rfl | rfl <;> rfl
  have hal : dL (s.at_ + 3) = 8 * (pos + 1) := by rw [wY, ha]; omega
  have n1 : aV B (dL (s.at_ + 3)) 16 = (X.length : Int) := by rw [hal, yQ (hB.get _) (hB.get _), b1, show pos + 1 + 1 = pos + 2 from rfl, b2]; omega
  have n2 : aV B (dL (s.at_ + 3) + 16) 16 = 65535 - (X.length : Int) := by rw [hal, show 8 * (pos + 1) + 16 = 8 * (pos + 3) by omega, yQ (hB.get _) (hB.get _), b3, show pos + 3 + 1 = pos + 4 from rfl, b4]; omega
  have hb := xJ (B := B) (s := s) (by omega) e1 (by omega) (by rw [n1, n2]; omega)
  have h1 := (sI (B := B) (mo := mo) (s := s) (by omega) hk).trans hb
  rw [n1, e0, hal] at h1
  obtain ⟨s', g, a1, a2, a3, a4, a5⟩ := DF (mo := mo) hB X (s := { s with at_ := 8 * (pos + 1) + 32, kind := 0, left := ((X.length : Int)).toNat, last := decide (la = 1) }) (pos := pos + 5) rfl hc he (by show ((X.length : Int)).toNat = X.length; omega) (by show 8 * (pos + 1) + 32 = 8 * (pos + 5); omega) (fun i hi => by
    have := hx (5 + i) (by omega)
    rw [show pos + 5 + i = pos + (5 + i) by omega, this]; simp [gj, Nat.add_comm 5 i]) (by omega) hm
  exact ⟨s', (iA.one he h1).trans g, by rw [a1]; omega, a2, a3, a4, a5⟩
def gh : List (List Int) → List Int
  | [] => []
  | [X] => gj 1 X
  | X :: Y :: L => gj 0 X ++ gh (Y :: L)
theorem wW (a b : List Int) (i : Nat) (h : i < a.length) : (a ++ b).getD i 0 = a.getD i 0 := by
  rw [List.getD_eq_getElem?_getD, List.getElem?_append_left h, ← List.getD_eq_getElem?_getD]
theorem ea (a b : List Int) (i : Nat) : (a ++ b).getD (a.length + i) 0 = b.getD i 0 := by
  rw [List.getD_eq_getElem?_getD, List.getElem?_append_right (by omega), Nat.add_sub_cancel_left, ← List.getD_eq_getElem?_getD]
theorem Ev {mo : Int} (hB : az B) : ∀ (L : List (List Int)) {s : St} {pos : Nat}, L ≠ [] → (∀ X ∈ L, X.length ≤ 65535) → s.kind = -1 → s.aB = 0 → s.ended = false → s.at_ = 8 * pos → (∀ i, i < (gh L).length → B.getD (pos + i) 0 = (gh L).getD i 0) → pos + (gh L).length ≤ B.length → (s.out.length : Int) + L.flatten.length ≤ mo →
    ∃ s', iA B mo s s' ∧ s'.at_ = 8 * (pos + (gh L).length) ∧ s'.out = s.out ++ L.flatten ∧ s'.ended = true := by
  intro L
  induction L with
  | nil => intro s pos h; exact (h rfl).elim
  | cons X L ih =>
    intro s pos _ hL hk hc he ha hx hp hm
    cases L with
    | nil =>
      obtain ⟨s', g, a1, a2, a3, a4, a5⟩ := u4 (mo := mo) hB (.inr rfl) (hL X (List.mem_cons_self ..)) hk hc he ha hx hp (by simpa using hm)
      exact ⟨s', g, a1, by simpa using a2, a5⟩
    | cons Y L =>
      have hlen : (gh (X :: Y :: L)).length = (gj 0 X).length + (gh (Y :: L)).length := by simp [gh]
      have hfl : (X :: Y :: L).flatten.length = X.length + (Y :: L).flatten.length := by simp
      obtain ⟨s', g, a1, a2, a3, a4, a5⟩ := u4 (mo := mo) hB (.inl rfl) (hL X (List.mem_cons_self ..)) hk hc he ha (fun i hi => by rw [hx i (by omega)]; exact wW _ _ _ hi) (by omega) (by omega)
      obtain ⟨s2, g2, c1, c2, c3⟩ := ih (s := s') (pos := pos + (gj 0 X).length) (by simp) (fun Z hZ => hL Z (List.mem_cons_of_mem _ hZ)) a3 a4 (by rw [a5]; rfl) a1 (fun i hi => by
        rw [show pos + (gj 0 X).length + i = pos + ((gj 0 X).length + i) by omega, hx _ (by omega)]; exact ea _ _ _) (by omega) (by rw [a2]; simp only [List.length_append]; omega)
      exact ⟨s2, g.trans g2, by rw [c1, hlen]; omega, by rw [c2, a2]; simp, c3⟩
end
theorem wL {la : Int} {X : List Int} (hla : la = 0 ∨ la = 1) (hX : X.length ≤ 65535) (h : az X) : az (gj la X) := by
  intro x hx
  unfold gj at hx
  rcases List.mem_append.1 hx with hx | hx
  · simp only [List.mem_cons, List.not_mem_nil, or_false] at hx
    rcases hx with rfl | rfl | rfl | rfl | rfl <;> omega
  · exact h x hx
theorem sk : ∀ (L : List (List Int)), (∀ X ∈ L, X.length ≤ 65535 ∧ az X) → az (gh L)
  | [], _ => fun x hx => by cases hx
  | [X], h => wL (.inr rfl) (h X (List.mem_cons_self ..)).1 (h X (List.mem_cons_self ..)).2
  | X :: Y :: L, h => fun x hx => by
    rcases List.mem_append.1 hx with hx | hx
    · exact wL (.inl rfl) (h X (List.mem_cons_self ..)).1 (h X (List.mem_cons_self ..)).2 x hx
    · exact sk (Y :: L) (fun Z hZ => h Z (List.mem_cons_of_mem _ hZ)) x hx
theorem De {L : List (List Int)} (hne : L ≠ []) (hL : ∀ X ∈ L, X.length ≤ 65535 ∧ az X) {t : List Int} (ht : az t) : jU (gh L ++ t) L.flatten.length (L.flatten, ((gh L).length : Int), 0) ∧ ∀ mo : Int, 0 ≤ mo → mo < L.flatten.length → jU (gh L ++ t) mo ([], 0, 6) := by
  have hB : az (gh L ++ t) := fun x hx => by
    rcases List.mem_append.1 hx with hx | hx
    · exact sk L hL x hx
    · exact ht x hx
  obtain ⟨s', g, a1, a2, a3⟩ := Ev (mo := L.flatten.length) hB L (s := start) (pos := 0) hne (fun X hX => (hL X hX).1) rfl rfl rfl rfl (fun i hi => by rw [Nat.zero_add]; exact wW _ _ _ hi) (by rw [List.length_append]; omega) (by show ((0 : Nat) : Int) + _ ≤ _; omega)
  have hr : ka (gh L ++ t) L.flatten.length start (.ok (L.flatten, (gh L).length)) := by
    have := g _ (.done a3)
    rw [a2, a1, show (8 * (0 + (gh L).length) + 7) / 8 = (gh L).length by omega, show start.out ++ L.flatten = L.flatten from rfl] at this
    exact this
  refine ⟨.inr ⟨by omega, _, hr, rfl⟩, fun mo h0 h1 => ?_⟩
  have hm := (yW (mo' := mo) hB hr (oP (by omega)) _ _ rfl).2.2 (by show ((0 : Nat) : Int) ≤ mo; omega) h1
  exact .inr ⟨h0, _, hm, rfl⟩
def Ma (L : List (List Int)) : Nat → List Int
  | 0 => []
  | i + 1 => Ma L i ++ gj (if i + 1 = L.length then 1 else 0) (L.getD i [])
end Go.ad
namespace Go.ad
open Go.ak Go.ag
structure Bk (L : List (List Int)) (i : Nat) : Prop where
  le : i ≤ L.length
  QY : ∀ j, j < i → (L.getD j []).length ≤ 1000
  te : ∀ j, j < i → az (L.getD j [])
  RO : (L.take i).flatten.length ≤ 1000 * i
  R3 : (Ma L i).length ≤ 1005 * i
end Go.ad
namespace Go.ak
structure Po (bs : List Int) (i : Nat) (o : List Int) : Prop where
  len : o.length = (bs.length + 7) / 8
  te : az o
  get : ∀ k, k < i → jk o k = bs.getD k 0
  zero : ∀ k, i ≤ k → jk o k = 0
end Go.ak
namespace Go.ad
open Go.ak Go.ag
def Sf (s : Int) : Int := if 280 ≤ s then 192 + s - 280 else if 256 ≤ s then s - 256 else if 144 ≤ s then 400 + s - 144 else 48 + s
def Sp (s : Int) : Nat := if 280 ≤ s then 8 else if 256 ≤ s then 7 else if 144 ≤ s then 9 else 8
structure Pq (bs o : List Int) : Prop where
  te : az o
  len : bs.length ≤ 8 * o.length
  get : ∀ i, i < bs.length → jk o i = bs.getD i 0
section
variable {bs o u w r out : List Int} {mo s y d : Int} {z : St}
structure Rd (o : List Int) (mo : Int) (z : St) (a : Nat) (out : List Int) : Prop where
  Aa : iA o mo start z
  at_ : z.at_ = a
  out : z.out = out
  kind : z.kind = 1
  aB : z.aB = 0
  ended : z.ended = false
  last : z.last = true
  lits : z.lits = gf
  eQ : z.eQ = ly
def Lr (d : Nat) : Nat → List Int → List Int
  | 0, l => l
  | k + 1, l => Lr d k (l ++ [l.getD (l.length - d) 0])
def jf (n d : Int) : List Int := wb gf (254 + n) ++ wb ly (d - 1)
end
def F9 (d : Int) : List Int → List Int
  | [] => []
  | m :: l => jf (3 + m % 8) d ++ F9 d l
def NS (d : Int) : List Int → List Int → List Int
  | [], out => out
  | m :: l, out => NS d l (Lr d.toNat (3 + m % 8).toNat out)
def Rz (head : List Int) (d : Int) (l : List Int) : List Int := lR 3 3 ++ ag.bits gf head ++ F9 d l
end Go.ad
namespace Go.ad
open Go.ak Go.ag
theorem kp {l : List Int} {i : Nat} (h : i < l.length) : l.take (i + 1) = l.take i ++ [l.getD i 0] := by
  rw [List.take_succ_eq_append_getElem h]
  simp [List.getD_eq_getElem?_getD, h]
def Sm (l : List Int) : Prop := ∀ x ∈ l, 0 ≤ x ∧ x ≤ 1
end Go.ad
namespace Go.ad
open Go.ak Go.ag
end Go.ad
namespace Go.aT
open Go.ak Go.ag Go.ad
def x3 (x y z : Int) : Int := IntKind.u32.wrap ((BitVec.ofInt IntKind.u32.bits (IntKind.u32.wrap ((BitVec.ofInt IntKind.u32.bits (IntKind.u32.wrap (x * 2 ^ (min (16 : Int).toNat IntKind.u32.bits))) ||| BitVec.ofInt IntKind.u32.bits (IntKind.u32.wrap (y * 2 ^ (min (8 : Int).toNat IntKind.u32.bits)))).toNat : Int)) ||| BitVec.ofInt IntKind.u32.bits z).toNat : Int)
def nD (x y z : Int) : Int := (IntKind.u32.wrap (x3 x y z * 2654435761)).fdiv (2 ^ (min (19 : Int).toNat IntKind.u32.bits))
def hs (B : List Int) (a : Nat) : Int := nD (B.getD a 0) (B.getD (a + 1) 0) (B.getD (a + 2) 0)
structure Fd where
  hd : List Int
  nx : List Int
def L5 (B : List Int) (f : Fd) (a : Nat) : Fd := if B.length < a + 3 then f else ⟨f.hd.set (hs B a).toNat (a : Int), f.nx.set a (f.hd.getD (hs B a).toNat 0)⟩
def zB (B : List Int) (f : Fd) (a : Nat) : Nat → Fd
  | 0 => f
  | k + 1 => L5 B (zB B f a k) (a + k)
def Am (B : List Int) (old a : Nat) : Nat → Nat → Nat
  | 0, n => n
  | f + 1, n => if a + n < B.length ∧ B.getD (old + n) 0 = B.getD (a + n) 0 then Am B old a f (n + 1) else n
def OE (B : List Int) (old a : Nat) : Nat := Am B old a 258 0
def tM (B nx : List Int) (a : Nat) : Nat → Int → Int → Int → Int × Int
  | 0, _, n, cE => (n, cE)
  | t + 1, old, n, cE => if old = -1 ∨ 32768 < (a : Int) - old then (n, cE) else
    if n < (OE B old.toNat a : Int) then tM B nx a t (nx.getD old.toNat 0) (OE B old.toNat a) ((a : Int) - old) else tM B nx a t (nx.getD old.toNat 0) n cE
def qY (B : List Int) (f : Fd) (a : Nat) : Int × Int := if B.length < a + 3 then (0, 0) else tM B f.nx a 24 (f.hd.getD (hs B a).toNat 0) 0 0
structure eb where
  lit : Int
  n : Int
  cE : Int
def vt (B : List Int) : Nat → Fd → Nat → List eb
  | 0, _, _ => []
  | q + 1, f, a => if a < B.length then
      (if (qY B f a).1 < 3 then ⟨B.getD a 0, 0, 0⟩ :: vt B q (zB B f a 1) (a + 1)
       else ⟨0, (qY B f a).1, (qY B f a).2⟩ :: vt B q (zB B f a (qY B f a).1.toNat) (a + (qY B f a).1.toNat)) else []
def QG (B : List Int) : Fd := ⟨List.replicate 8192 (-1), List.replicate B.length 0⟩
def uD (B : List Int) : List eb := vt B B.length (QG B) 0
structure Sw (B : List Int) (old a n : Nat) : Prop where
  le : n ≤ 258
  room : a + n ≤ B.length ∨ n = 0
  same : ∀ i, i < n → B.getD (old + i) 0 = B.getD (a + i) 0
structure SA (B : List Int) (n : Nat) (f : Fd) : Prop where
  hl : f.hd.length = 8192
  nl : f.nx.length = B.length
  h : ∀ i, i < 8192 → -1 ≤ f.hd.getD i 0 ∧ f.hd.getD i 0 < n
  x : ∀ i, i < B.length → -1 ≤ f.nx.getD i 0 ∧ (f.nx.getD i 0 < n ∨ f.nx.getD i 0 = 0)
structure Fs (B : List Int) (a : Nat) (r : Int × Int) : Prop where
  Rt : (r.1 = 0 ∧ r.2 = 0) ∨ (1 ≤ r.1 ∧ r.1 ≤ 258 ∧ 1 ≤ r.2 ∧ r.2 ≤ 32768 ∧ r.2 ≤ a ∧ a + r.1.toNat ≤ B.length ∧ ∀ i, i < r.1.toNat → B.getD (a - r.2.toNat + i) 0 = B.getD (a + i) 0)
def Q6 : List eb → List Int → List Int
  | [], o => o
  | t :: l, o => Q6 l (if t.n = 0 then o ++ [t.lit] else Lr t.cE.toNat t.n.toNat o)
structure sZ (t : eb) : Prop where
  Rt : (t.n = 0 ∧ t.cE = 0 ∧ 0 ≤ t.lit ∧ t.lit < 256) ∨ (t.lit = 0 ∧ 3 ≤ t.n ∧ t.n ≤ 258 ∧ 1 ≤ t.cE ∧ t.cE ≤ 32768)
inductive tt (B : List Int) : Nat → List eb → Prop
  | nil : tt B B.length []
  | lit {a : Nat} {l : List eb} : a < B.length → tt B (a + 1) l → tt B a (⟨B.getD a 0, 0, 0⟩ :: l)
  | cp {a n d : Nat} {l : List eb} : 3 ≤ n → n ≤ 258 → 1 ≤ d → d ≤ 32768 → d ≤ a → a + n ≤ B.length → (∀ i, i < n → B.getD (a - d + i) 0 = B.getD (a + i) 0) → tt B (a + n) l → tt B a (⟨0, n, d⟩ :: l)
section
variable {B nx : List Int} {a k o : Nat} {old n cE : Int}
end
end Go.aT
namespace Go.aT
open Go.ak Go.ag Go.ad
def zR (lim x : Int) : Nat → Nat → Nat
  | 0, m => m
  | f + 1, m => if lim ≤ x / 2 ^ m then zR lim x f (m + 1) else m
def s7 (lim x : Int) : Nat := zR lim x 16 0
def uj (n : Int) : Int := if n - 3 = 255 then 285 else if n - 3 < 8 then 257 + (n - 3) else 257 + 4 * (s7 8 (n - 3) : Int) + (n - 3) / 2 ^ s7 8 (n - 3)
def EO (n : Int) : Nat := if n - 3 = 255 then 0 else if n - 3 < 8 then 0 else s7 8 (n - 3)
def Eo (n : Int) : Int := if n - 3 = 255 then 0 else if n - 3 < 8 then 0 else (n - 3) % 2 ^ s7 8 (n - 3)
def uk (f : Int) : Int := if f - 1 < 4 then f - 1 else 2 * (s7 4 (f - 1) : Int) + (f - 1) / 2 ^ s7 4 (f - 1)
def EF (f : Int) : Nat := if f - 1 < 4 then 0 else s7 4 (f - 1)
def El (f : Int) : Int := if f - 1 < 4 then 0 else (f - 1) % 2 ^ s7 4 (f - 1)
structure Mr (lim x : Int) (m : Nat) : Prop where
  lt : x / 2 ^ m < lim
  ge : m = 0 ∨ lim ≤ x / 2 ^ (m - 1)
  le : m ≤ 13
def uc (ls ds : List Int) (t : eb) : List Int := if t.n = 0 then wb ls t.lit else wb ls (uj t.n) ++ lR (Eo t.n) (EO t.n) ++ wb ds (uk t.cE) ++ lR (El t.cE) (EF t.cE)
def rp (ls ds : List Int) (l : List eb) : List Int := l.flatMap (uc ls ds)
structure Fits (ls ds : List Int) (l : List eb) : Prop where
  ok : ∀ t ∈ l, sZ t
  lit : ∀ t ∈ l, t.n = 0 → t.lit < ls.length ∧ n6 ls t.lit = true
  cp : ∀ t ∈ l, t.n ≠ 0 → uj t.n < ls.length ∧ n6 ls (uj t.n) = true ∧ uk t.cE < ds.length ∧ n6 ds (uk t.cE) = true
  end_ : (256 : Int) < ls.length ∧ n6 ls 256 = true
end Go.aT
namespace Go.lJ
abbrev Pk := Int × List Int
def Oq : List Pk → List Pk
  | a :: b :: l => (a.1 + b.1, a.2 ++ b.2) :: Oq l
  | _ => []
def sy (l : List Pk) (m : Nat) : List Int := (l.take m).flatMap (·.2)
def Lh : List Pk → List Pk → List Pk
  | [], P => P
  | A, [] => A
  | a :: A, b :: P => if a.1 ≤ b.1 then a :: Lh A (b :: P) else b :: Lh (a :: A) P
termination_by A P => A.length + P.length
abbrev qJ (l : List Pk) : Prop := l.Pairwise (fun x y => x.1 ≤ y.1)
structure SS (l l' : List Pk) : Prop where
  Re : qJ l'
  R4 : ∀ c, l'.filter (fun x => decide (x.1 = c)) = l.filter (fun x => decide (x.1 = c))
end Go.lJ
namespace Go.lJ
def lv (A : List Pk) : Nat → List Pk
  | 0 => []
  | j + 1 => Lh A (Oq (lv A j))
def sm (A : List Pk) (i : Nat) : Int := (A.getD i (0, [])).2.headD 0
structure Lf (A : List Pk) : Prop where
  Re : qJ A
  one : ∀ i, i < A.length → (A.getD i (0, [])).2 = [sm A i]
  inj : ∀ i j, i < A.length → j < A.length → sm A i = sm A j → i = j
  pos : ∀ x ∈ A, 0 < x.1
def Hv (A : List Pk) (e : Pk) : Prop := 0 ≤ e.1 ∧ ∀ i, i < A.length → sm A i ∈ e.2 → (A.getD i (0, [])).1 ≤ e.1
def ct (A : List Pk) (j m i : Nat) : Nat := (sy (lv A j) m).count (sm A i)
def QB (f : Nat → Nat) : Nat → Nat
  | 0 => 0
  | n + 1 => QB f n + f n
end Go.lJ
namespace Go.lJ
open Go.ag
def Ku (s : Nat → Int) (v : Nat → Int) (base : List Int) : Nat → List Int
  | 0 => base
  | k + 1 => (Ku s v base k).set (s k).toNat (v k)
def cs (A : List Pk) (de : Nat) : List Int := (List.range A.length).map (fun i => (ct A de (2 * A.length - 2) i : Int))
structure Ln (A : List Pk) (de : Nat) (vs : List Int) : Prop where
  perm : vs.Perm (cs A de)
  down : vs.Pairwise (fun x y => y ≤ x)
def out (A : List Pk) (vs : List Int) (L : Nat) : List Int := Ku (sm A) (fun i => vs.getD i 0) (List.replicate L 0) A.length
structure Good (A : List Pk) (de L : Nat) (o : List Int) : Prop where
  len : o.length = L
  leaf : ∀ i, i < A.length → 1 ≤ o.getD (sm A i).toNat 0 ∧ o.getD (sm A i).toNat 0 ≤ de
  rest : ∀ x, (∀ i, i < A.length → (sm A i).toNat ≠ x) → o.getD x 0 = 0
  down : ∀ i j, i ≤ j → j < A.length → o.getD (sm A j).toNat 0 ≤ o.getD (sm A i).toNat 0
  code : cu o = 0
end Go.lJ
namespace Go.lJ
open Go.ag
def II (fr : List Int) (k : Nat) : List Pk := ((List.range k).filter (fun i => decide (0 < fr.getD i 0))).map (fun i : Nat => (fr.getD i 0, [(i : Int)]))
def cO (L : Nat) (X : List Int) : List Int := (List.range L).map (fun k : Nat => (X.count (k : Int) : Int))
structure MH (fr : List Int) (de : Nat) (o : List Int) : Prop where
  len : o.length = fr.length
  code : cu o = 0
  pos : ∀ i, i < fr.length → 0 < fr.getD i 0 → 1 ≤ o.getD i 0 ∧ o.getD i 0 ≤ de
  zero : ∀ i, i < fr.length → ¬ 0 < fr.getD i 0 → o.getD i 0 = 0
  one : (II fr fr.length).length = 1 → ∀ i, o.getD i 0 ≤ 1
  down : ∀ i k, i < fr.length → k < fr.length → fr.getD k 0 < fr.getD i 0 → 0 < fr.getD k 0 → o.getD i 0 ≤ o.getD k 0
end Go.lJ
namespace Go.lJ
open Go.ag
def Lj (x : Pk) : List Pk → List Pk
  | [] => [x]
  | y :: ys => if x.1 ≤ y.1 then x :: y :: ys else y :: Lj x ys
def DO : List Pk → List Pk
  | [] => []
  | x :: xs => Lj x (DO xs)
def uL (fr : List Int) (de : Nat) : List Int :=
  match II fr fr.length with
  | [] => List.replicate fr.length 0
  | [x] => (List.replicate fr.length 0).set (x.2.headD 0).toNat 1
  | l => out (DO l) ((cs (DO l) de).mergeSort fun x y => decide (x ≤ y)).reverse fr.length
structure Rx (fr : List Int) (de : Nat) (o : List Int) : Prop extends MH fr de o where
  AO : o = uL fr de
end Go.lJ
namespace Go.aT
open Go.ak Go.ag Go.ad
def Gp (fr : List Int) : Nat → Int
  | 0 => 0
  | k + 1 => if Gp fr k < fr.getD k 0 then fr.getD k 0 else Gp fr k
def Ke (x : Int) : Nat → Nat → Nat
  | 0, m => m
  | f + 1, m => if 1048576 < x / 2 ^ m then Ke x f (m + 1) else m
def dn (fr : List Int) : Nat := Ke (Gp fr fr.length) 16 0
def rr (d : Nat) (x : Int) : Int := if 0 < x then (if 1 < x / 2 ^ d then x / 2 ^ d else 1) else x
def EJ (fr : List Int) (d : Nat) : Nat → List Int
  | 0 => fr
  | k + 1 => (EJ fr d k).set k (rr d (fr.getD k 0))
def wX (fr : List Int) : List Int := EJ fr (dn fr) fr.length
def xz (l : List Int) (s : Int) : List Int := l.set s.toNat (l.getD s.toNat 0 + 1)
def Pn (t : eb) : Int := if t.n = 0 then t.lit else uj t.n
def wm : List eb → List Int → List Int
  | [], a => a
  | t :: l, a => wm l (xz a (Pn t))
def DZ : List eb → List Int → List Int
  | [], b => b
  | t :: l, b => DZ l (if t.n = 0 then b else xz b (uk t.cE))
def Oa : List Int := (List.replicate 286 0).set 256 1
def Ov : List Int := List.replicate 30 0
def fA (l : List eb) : List Int := wX (wm l Oa)
def fB (l : List eb) : List Int := wX (DZ l Ov)
end Go.aT
namespace Go.aT
open Go.ak Go.ag Go.ad
def jo : Nat → List Int → List (List Int)
  | 0, Z => [Z]
  | f + 1, Z => if Z.length ≤ 65535 then [Z] else Z.take 65535 :: jo f (Z.drop 65535)
theorem vY : ∀ (f : Nat) (Z : List Int), ∃ X L, jo f Z = X :: L
  | 0, Z => ⟨Z, [], rfl⟩
  | f + 1, Z => by
    unfold jo
    split
    · exact ⟨_, _, rfl⟩
    · exact ⟨_, _, rfl⟩
theorem rX {Z : List Int} (h : Z.length ≤ 65535) : ∀ f, jo f Z = [Z]
  | 0 => rfl
  | f + 1 => if_pos h
theorem si {Z : List Int} (h : 65535 < Z.length) (f : Nat) : gh (jo (f + 1) Z) = gj 0 (Z.take 65535) ++ gh (jo f (Z.drop 65535)) := by
  have h0 : jo (f + 1) Z = Z.take 65535 :: jo f (Z.drop 65535) := if_neg (by omega)
  rw [h0]
  obtain ⟨X, L, e⟩ := vY f (Z.drop 65535)
  rw [e]; rfl
theorem r9 : ∀ (f : Nat) (Z : List Int), (jo f Z).flatten = Z
  | 0, Z => by simp [jo]
  | f + 1, Z => by
    unfold jo
    split
    · simp
    · rw [List.flatten_cons, r9 f, List.take_append_drop]
theorem pS : ∀ (f : Nat) (Z : List Int), Z.length ≤ 65535 * (f + 1) → ∀ X ∈ jo f Z, X.length ≤ 65535
  | 0, Z, h, X, hX => by simp only [jo, List.mem_singleton] at hX; subst hX; omega
  | f + 1, Z, h, X, hX => by
    unfold jo at hX
    split at hX
    · rw [List.mem_singleton.1 hX]; assumption
    · rcases List.mem_cons.1 hX with rfl | hX
      · rw [List.length_take]; omega
      · exact pS f _ (by rw [List.length_drop]; omega) X hX
theorem HY : ∀ (f : Nat) (Z : List Int), Z.length ≤ 65535 * (f + 1) → (gh (jo f Z)).length ≤ Z.length + 5 * (Z.length / 65535 + 1)
  | 0, Z, h => by show (gj 1 Z).length ≤ _; rw [k7]; omega
  | f + 1, Z, h => by
    rcases Nat.lt_or_ge 65535 Z.length with h1 | h1
    · have ih := HY f (Z.drop 65535) (by rw [List.length_drop]; omega)
      rw [si h1, List.length_append, k7, List.length_take]
      rw [List.length_drop] at ih
      omega
    · rw [rX h1]; show (gj 1 Z).length ≤ _; rw [k7]; omega
theorem wZ : ∀ (f : Nat) (Z : List Int), Z.length ≤ 65535 * (f + 1) → (gh (jo f Z)).length = Z.length + 5 * ((Z.length - 1) / 65535 + 1)
  | 0, Z, h => by show (gj 1 Z).length = _; rw [k7]; omega
  | f + 1, Z, h => by
    rcases Nat.lt_or_ge 65535 Z.length with h1 | h1
    · have ih := wZ f (Z.drop 65535) (by rw [List.length_drop]; omega)
      rw [si h1, List.length_append, k7, List.length_take]
      rw [List.length_drop] at ih
      omega
    · rw [rX h1]; show (gj 1 Z).length = _; rw [k7]; omega
def iN (B : List Int) : List Int := gh (jo 64 B)
theorem Jx (B : List Int) : [] ++ gh (jo 64 B) = iN B := rfl
theorem D1 {O Z B : List Int} {f : Nat} (h : O ++ gh (jo f Z) = iN B) (hZ : Z.length ≤ 65535) : O ++ [1, (Z.length : Int) % 256, (Z.length : Int) / 256, 255 - (Z.length : Int) % 256, 255 - (Z.length : Int) / 256] ++ Z = iN B := by
  rw [← h, rX hZ, List.append_assoc]; rfl
theorem D8 {O Z B : List Int} {f : Nat} (h : O ++ gh (jo (f + 1) Z) = iN B) (hZ : 65535 < Z.length) : O ++ [0, (65535 : Int) % 256, (65535 : Int) / 256, 255 - (65535 : Int) % 256, 255 - (65535 : Int) / 256] ++ Z.take 65535 ++ gh (jo f (Z.drop 65535)) = iN B := by
  rw [← h, si hZ]
  have : (Z.take 65535).length = 65535 := by rw [List.length_take]; omega
  unfold gj
  rw [this]
  simp only [List.append_assoc]
  rfl
theorem uy {B : List Int} (h : B.length ≤ 4194304) : (iN B).length = B.length + 5 * ((B.length - 1) / 65535 + 1) := wZ 64 B (by omega)
theorem Ik {B t : List Int} (h : B.length ≤ 4194304) (hB : az B) (ht : az t) : jU (iN B ++ t) B.length (B, ((iN B).length : Int), 0) ∧ ∀ mo : Int, 0 ≤ mo → mo < B.length → jU (iN B ++ t) mo ([], 0, 6) := by
  obtain ⟨X, L, e⟩ := vY 64 B
  have h1 := De (L := jo 64 B) (by rw [e]; simp) (fun X hX => ⟨pS 64 B (by omega) X hX, fun x hx => hB x (by
    have := r9 64 B
    rw [← this]; exact List.mem_flatten.2 ⟨X, hX, hx⟩)⟩) ht
  rw [r9] at h1
  exact h1
end Go.aT
namespace Go.lJ
open Go.ag
end Go.lJ
namespace Go.aT
open Go.ak Go.ag Go.ad
def nB (bs : List Int) (a : Nat) : Nat → Int
  | 0 => 0
  | n + 1 => nB bs a n + bs.getD (a + n) 0 * 2 ^ n
def FJ (bs : List Int) : List Int := (List.range ((bs.length + 7) / 8)).map fun j => nB bs (8 * j) 8
def Qw (l : List eb) : List Int := lR 1 1 ++ lR 1 2 ++ (rp gf ly l ++ wb gf 256)
def Kb (l : List eb) : List Int := FJ (Qw l)
def dA (l : List eb) : List Int := lJ.uL (fA l) 15
def dB (l : List eb) : List Int := lJ.uL (fB l) 15
def DE : List Int → List Int → List Int
  | [], f => f
  | n :: l, f => DE l (xz f n)
def Ei (l : List eb) : List Int := dA l ++ dB l
def Ob : List Int := List.replicate 19 0
def Om (l : List eb) : List Int := DE (Ei l) Ob
def dF (l : List eb) : List Int := lJ.uL (Om l) 7
def dS (f : List Int) (k : Nat) : List Int := (mw.take k).flatMap fun i => lR (f.getD i.toNat 0) 3
def Ox : List Int := lR 1 1 ++ lR 2 2 ++ lR 29 5 ++ lR 29 5 ++ lR 15 4
def Qz (l : List eb) : List Int := Ox ++ dS (dF l) 19 ++ ag.bits (dF l) (Ei l) ++ (rp (dA l) (dB l) l ++ wb (dA l) 256)
def IX (l : List eb) : List Int := FJ (Qz l)
end Go.aT
namespace Go.aT
open Go.ak Go.ag Go.ad
def OB {α : Type} (a b c : α) : Nat → α
  | 0 => a
  | 1 => b
  | _ => c
def bi (n : Nat → Nat) : Nat → Nat
  | 0 => 0
  | k + 1 => if n (k + 1) < n (bi n k) then k + 1 else bi n k
def sN (B : List Int) : Nat → Nat := OB (iN B).length (Kb (uD B)).length (IX (uD B)).length
def n5 (B : List Int) : List Int := OB (iN B) (Kb (uD B)) (IX (uD B)) (bi (sN B) 2)
end Go.aT
namespace Go.aT
open Go.ak Go.ag Go.ad
end Go.aT
namespace Go.aT
open Go.ak Go.ag Go.ad
def BM (n : Int) : Int := if n < 0 then 0 else n
def de (n : Int) : Int := if 0 < BM n % 65535 then BM n + 5 * (BM n / 65535 + 1) + 5 else BM n + 5 * (BM n / 65535) + 5
end Go.aT
namespace Go.aT
open Go.ak Go.ag Go.ad
structure Rq (ls ds o : List Int) (mo : Int) (z : St) (a : Nat) (out : List Int) : Prop where
  Aa : iA o mo ad.start z
  at_ : z.at_ = a
  out : z.out = out
  k1 : ¬ z.kind = -1
  k2 : ¬ z.kind = 0
  aB : z.aB = 0
  ended : z.ended = false
  last : z.last = true
  lits : z.lits = ls
  eQ : z.eQ = ds
section
variable {ls ds bs o u r out : List Int} {mo y : Int} {z : St} {t : eb}
end
end Go.aT
namespace Go.aT
open Go.ak Go.ag Go.ad
end Go.aT
namespace Go.aT
open Go.ak Go.ag Go.ad
section
variable {B : List Int} {b : Int}
def Sb (B : List Int) (b : Int) : Prop := ∀ i, i < B.length → B.getD i 0 = b
end
end Go.aT
namespace Go.aT
open Go.ak Go.ag Go.ad
def Sc (x : Int) : Int := IntKind.u32.wrap (IntKind.u32.wrap (x * 1664525) + 1013904223)
def Sv (x : Int) : Int := IntKind.u8.wrap (x.fdiv (2 ^ (min (24 : Int).toNat IntKind.u32.bits)))
structure Gd (B : List Int) : Prop where
  zb : (n5 B).length ≤ 30000000
  te : az (n5 B)
  res : jU (n5 B) (B.length : Int) (B, ((n5 B).length : Int), 0)
  de : ((n5 B).length : Int) ≤ (B.length : Int) + 5 * (((B.length : Int) + 65534) / 65535) + 5
theorem az.snoc {l : List Int} {y : Int} (h : az l) (hy : 0 ≤ y ∧ y < 256) : az (l ++ [y]) := fun x hx => by
  rcases List.mem_append.1 hx with hx | hx
  · exact h x hx
  · rw [List.mem_singleton.1 hx]; exact hy
end Go.aT
namespace Go.aT
open Go.ak
theorem az.app {a b : List Int} (h : az a) (k : az b) : az (a ++ b) := fun x hx => by
  rcases List.mem_append.1 hx with hx | hx
  · exact h x hx
  · exact k x hx
end Go.aT
namespace Go.aT
open Go.ak Go.ad
theorem jx : az [] := fun x hx => by cases hx
end Go.aT
namespace Go.aT
end Go.aT
namespace Go.aL
open Go.ak Go.ad
theorem sg {x : Int} (h : 0 ≤ x ∧ x < 256) : ∃ k : Fin 256, x = ((k.val : Nat) : Int) := ⟨⟨x.toNat, by omega⟩, by simp only; omega⟩
theorem Cu : ∀ k : Fin 256, IntKind.i64.wrap ((BitVec.ofInt IntKind.i64.bits ((k.val : Nat) : Int) &&& BitVec.ofInt IntKind.i64.bits 15).toNat : Int) = ((k.val : Nat) : Int) % 16 := by decide +kernel
theorem C7 : ∀ k : Fin 256, IntKind.i64.wrap ((BitVec.ofInt IntKind.i64.bits ((k.val : Nat) : Int) &&& BitVec.ofInt IntKind.i64.bits 32).toNat : Int) = 32 * (((k.val : Nat) : Int) / 32 % 2) := by decide +kernel
theorem tw {x : Int} (h : 0 ≤ x ∧ x < 256) : IntKind.i64.wrap ((BitVec.ofInt IntKind.i64.bits x &&& BitVec.ofInt IntKind.i64.bits 15).toNat : Int) = x % 16 := by obtain ⟨k, rfl⟩ := sg h; exact Cu k
theorem FA {x : Int} (h : 0 ≤ x ∧ x < 256) : IntKind.i64.wrap ((BitVec.ofInt IntKind.i64.bits x &&& BitVec.ofInt IntKind.i64.bits 32).toNat : Int) = 32 * (x / 32 % 2) := by obtain ⟨k, rfl⟩ := sg h; exact C7 k
theorem FE {x : Int} (h : 0 ≤ x) : x.fdiv (2 ^ (min (4 : Int).toNat IntKind.i64.bits)) = x / 16 := by rw [Int.fdiv_eq_ediv_of_nonneg _ (by decide)]; rfl
theorem AG {a b n : Nat} (hb : b < 2 ^ n) : (a * 2 ^ n) ||| b = a * 2 ^ n + b := by
  have := Nat.shiftLeft_add_eq_or_of_lt hb a
  rw [Nat.shiftLeft_eq] at this
  exact this.symm
theorem wrap32 {n : Int} (h1 : 0 ≤ n) (h2 : n < 4294967296) : IntKind.u32.wrap n = n := by
  have e : IntKind.u32.wrap n = n % 4294967296 := rfl
  rw [e]; omega
theorem wrap64 {n : Int} (h1 : 0 ≤ n) (h2 : n < 4294967296) : IntKind.i64.wrap n = n := Go.Sl.gU (by omega) (by omega)
theorem KZ {x y u : Int} {n : Nat} (hx : x = u * 2 ^ n) (hu : 0 ≤ u) (hy : 0 ≤ y ∧ y < 2 ^ n) (h : x + y < 4294967296) : IntKind.u32.wrap ((BitVec.ofInt IntKind.u32.bits x ||| BitVec.ofInt IntKind.u32.bits y).toNat : Int) = x + y := by
  obtain ⟨a, rfl⟩ : ∃ a : Nat, u = (a : Int) := ⟨u.toNat, by omega⟩
  obtain ⟨b, rfl⟩ : ∃ b : Nat, y = (b : Int) := ⟨y.toNat, by omega⟩
  have e : IntKind.u32.bits = 32 := rfl
  have hb : b < 2 ^ n := by have := hy.2; exact_mod_cast this
  have hx2 : x = ((a * 2 ^ n : Nat) : Int) := by rw [hx]; push_cast; rfl
  subst hx2
  rw [e, BitVec.toNat_or, eF, eF, Nat.mod_eq_of_lt (by omega), Nat.mod_eq_of_lt (by omega), AG hb, wrap32 (by omega) (by omega)]
  omega
theorem pg {x y u : Int} {n : Nat} (hx : x = u * 2 ^ n) (hu : 0 ≤ u) (hy : 0 ≤ y ∧ y < 2 ^ n) (h : x + y < 4294967296) : IntKind.i64.wrap ((BitVec.ofInt IntKind.i64.bits x ||| BitVec.ofInt IntKind.i64.bits y).toNat : Int) = x + y := by
  obtain ⟨a, rfl⟩ : ∃ a : Nat, u = (a : Int) := ⟨u.toNat, by omega⟩
  obtain ⟨b, rfl⟩ : ∃ b : Nat, y = (b : Int) := ⟨y.toNat, by omega⟩
  have e : IntKind.i64.bits = 64 := rfl
  have hb : b < 2 ^ n := by have := hy.2; exact_mod_cast this
  have hx2 : x = ((a * 2 ^ n : Nat) : Int) := by rw [hx]; push_cast; rfl
  subst hx2
  rw [e, BitVec.toNat_or, eF, eF, Nat.mod_eq_of_lt (by omega), Nat.mod_eq_of_lt (by omega), AG hb, wrap64 (by omega) (by omega)]
  omega
theorem uH {x r : Int} {n : Nat} {d : Int} (hd : d = (n : Int)) (hn : n ≤ 32) (hr : r = x * 2 ^ n) (h0 : 0 ≤ r) (h1 : r < 4294967296) : IntKind.i64.wrap (x * 2 ^ (min d.toNat IntKind.i64.bits)) = r := by
  have e : min d.toNat IntKind.i64.bits = n := by
    have : IntKind.i64.bits = 64 := rfl
    omega
  rw [e, ← hr]; exact wrap64 h0 h1
theorem Jy {x r : Int} {n : Nat} {d : Int} (hd : d = (n : Int)) (hn : n ≤ 32) (hr : r = x * 2 ^ n) (h0 : 0 ≤ r) (h1 : r < 4294967296) : IntKind.u32.wrap (x * 2 ^ (min d.toNat IntKind.u32.bits)) = r := by
  have e : min d.toNat IntKind.u32.bits = n := by
    have : IntKind.u32.bits = 32 := rfl
    omega
  rw [e, ← hr]; exact wrap32 h0 h1
theorem Ai {x : Int} {n : Nat} {d : Int} (hd : d = (n : Int)) (hn : n ≤ 32) : x.fdiv (2 ^ (min d.toNat IntKind.u32.bits)) = x / 2 ^ n := by
  have e : min d.toNat IntKind.u32.bits = n := by
    have : IntKind.u32.bits = 32 := rfl
    omega
  rw [e, Int.fdiv_eq_ediv_of_nonneg _ (Int.le_of_lt (Int.pow_pos (by decide)))]
def px (s : Int × Int) (c : Int) : Int × Int := ((s.1 + c) % 65521, (s.2 + (s.1 + c) % 65521) % 65521)
def fk (l : List Int) : Int × Int := l.foldl px (1, 0)
theorem re : fk [] = (1, 0) := rfl
theorem Dc (l : List Int) (c : Int) : fk (l ++ [c]) = px (fk l) c := by simp [fk]
theorem pc {l : List Int} {i : Nat} (h : i < l.length) : fk (l.take (i + 1)) = px (fk (l.take i)) (l.getD i 0) := by rw [ad.kp h, Dc]
theorem I2 (s : Int × Int) (c : Int) : (0 ≤ (px s c).1 ∧ (px s c).1 < 65521) ∧ 0 ≤ (px s c).2 ∧ (px s c).2 < 65521 := by unfold px; simp only; omega
theorem GL (l : List Int) : ∀ s : Int × Int, ((0 ≤ s.1 ∧ s.1 < 65521) ∧ 0 ≤ s.2 ∧ s.2 < 65521) → (0 ≤ (l.foldl px s).1 ∧ (l.foldl px s).1 < 65521) ∧ 0 ≤ (l.foldl px s).2 ∧ (l.foldl px s).2 < 65521 := by
  induction l with
  | nil => exact fun s h => h
  | cons a l ih => exact fun s h => ih _ (I2 s a)
theorem qC (l : List Int) : (0 ≤ (fk l).1 ∧ (fk l).1 < 65521) ∧ 0 ≤ (fk l).2 ∧ (fk l).2 < 65521 := GL l _ (by decide)
def gl (l : List Int) : Int := (fk l).2 * 65536 + (fk l).1
theorem vI (l : List Int) : 0 ≤ gl l ∧ gl l < 4294967296 := by have := qC l; unfold gl; omega
def kU (l : List Int) : List Int := [gl l / 16777216, gl l / 65536 % 256, gl l / 256 % 256, gl l % 256]
theorem ug (l : List Int) : (kU l).length = 4 := rfl
theorem rj (l : List Int) : az (kU l) := fun x hx => by
  have := vI l
  simp only [kU, List.mem_cons, List.not_mem_nil, or_false] at hx
  rcases hx with rfl | rfl | rfl | rfl <;> omega
def cW (l : List Int) : Int := l.getD 0 0 * 16777216 + l.getD 1 0 * 65536 + l.getD 2 0 * 256 + l.getD 3 0
def Hd (a b : Int) : Prop := a % 16 = 8 ∧ a / 16 ≤ 7 ∧ (a * 256 + b) % 31 = 0 ∧ 32 * (b / 32 % 2) = 0
instance (a b : Int) : Decidable (Hd a b) := by unfold Hd; infer_instance
theorem Nc (a b : Int) : ¬ a % 16 = 8 ∨ (a % 16 = 8 ∧ ¬ a / 16 ≤ 7) ∨ (a % 16 = 8 ∧ a / 16 ≤ 7 ∧ ¬ (a * 256 + b) % 31 = 0) ∨ (a % 16 = 8 ∧ a / 16 ≤ 7 ∧ (a * 256 + b) % 31 = 0 ∧ ¬ 32 * (b / 32 % 2) = 0) ∨ (a % 16 = 8 ∧ a / 16 ≤ 7 ∧ (a * 256 + b) % 31 = 0 ∧ 32 * (b / 32 % 2) = 0) := by omega
def fin (D : List Int) (r : List Int × Int × Int) : List Int × Int :=
  if ¬ r.2.2 = 0 then ([], r.2.2) else if D.length - r.2.1.toNat < 4 then ([], 2) else if 4 < D.length - r.2.1.toNat then ([], 4) else if D.drop r.2.1.toNat = kU r.1 then (r.1, 0) else ([], 5)
def nU (B : List Int) (mo : Int) (q : List Int × Int) : Prop :=
  (B.length < 6 ∧ q = ([], 2)) ∨ (6 ≤ B.length ∧ ¬ Hd (B.getD 0 0) (B.getD 1 0) ∧ q = ([], 4)) ∨ (6 ≤ B.length ∧ Hd (B.getD 0 0) (B.getD 1 0) ∧ ∃ r, jU (B.drop 2) mo r ∧ q = fin (B.drop 2) r)
theorem ej {B : List Int} (h : az B) (n : Nat) : az (B.drop n) := fun x hx => h x (List.mem_of_mem_drop hx)
theorem IV {B : List Int} {mo : Int} (hB : az B) {q : List Int × Int × Int} (h : jU B mo q) : az q.1 ∧ 0 ≤ q.2.1 ∧ q.2.1 ≤ B.length ∧ (q.1 = [] ∨ (q.1.length : Int) ≤ mo) := by
  rcases h with ⟨_, rfl⟩ | ⟨h0, o, ho, rfl⟩
  · exact ⟨fun x hx => by (cases hx), by decide, by simp, .inl rfl⟩
  · cases o with
    | error e => exact ⟨fun x hx => by (cases hx), by simp [Ou], by simp [Ou], .inl rfl⟩
    | ok p =>
      obtain ⟨x, n⟩ := p
      obtain ⟨h1, h2, h3⟩ := BZ hB ho (oP (by omega)) x n rfl
      exact ⟨h3, by simp [Ou], by simp only [Ou]; omega, .inr h1⟩
end Go.aL
namespace Go.aL
open Go.ak Go.ad Go.aT
theorem nU.ways {B : List Int} {mo : Int} {q : List Int × Int} (hB : az B) (hm : mo < 500000000) (h : nU B mo q) :
    (B.length < 6 ∧ q = ([], 2)) ∨ (6 ≤ B.length ∧ ¬ Hd (B.getD 0 0) (B.getD 1 0) ∧ q = ([], 4)) ∨
    (∃ e, 6 ≤ B.length ∧ Hd (B.getD 0 0) (B.getD 1 0) ∧ jU (B.drop 2) mo ([], ((0 : Nat) : Int), e) ∧ ¬ e = 0 ∧ q = ([], e)) ∨
    (∃ (x : List Int) (n : Nat), 6 ≤ B.length ∧ Hd (B.getD 0 0) (B.getD 1 0) ∧ jU (B.drop 2) mo (x, (n : Int), 0) ∧ az x ∧ x.length < 500000000 ∧ n ≤ B.length - 2 ∧ B.length - (2 + n) < 4 ∧ q = ([], 2)) ∨
    (∃ (x : List Int) (n : Nat), 6 ≤ B.length ∧ Hd (B.getD 0 0) (B.getD 1 0) ∧ jU (B.drop 2) mo (x, (n : Int), 0) ∧ az x ∧ x.length < 500000000 ∧ n ≤ B.length - 2 ∧ 4 < B.length - (2 + n) ∧ q = ([], 4)) ∨
    (∃ (x : List Int) (n : Nat), 6 ≤ B.length ∧ Hd (B.getD 0 0) (B.getD 1 0) ∧ jU (B.drop 2) mo (x, (n : Int), 0) ∧ az x ∧ x.length < 500000000 ∧ n ≤ B.length - 2 ∧ B.length - (2 + n) = 4 ∧ ¬ B.drop (2 + n) = kU x ∧ q = ([], 5)) ∨
    (∃ (x : List Int) (n : Nat), 6 ≤ B.length ∧ Hd (B.getD 0 0) (B.getD 1 0) ∧ jU (B.drop 2) mo (x, (n : Int), 0) ∧ az x ∧ x.length < 500000000 ∧ n ≤ B.length - 2 ∧ B.length - (2 + n) = 4 ∧ B.drop (2 + n) = kU x ∧ q = (x, 0)) := by
  rcases h with h | h | ⟨h6, hh, ⟨x, n, e⟩, hr, hq⟩
  · exact .inl h
  · exact .inr (.inl h)
  · obtain ⟨i1, i2, i3, i4⟩ := IV (ej hB 2) hr
    simp only [List.length_drop] at i1 i2 i3 i4
    have hxl : x.length < 500000000 := by
      rcases i4 with h | h
      · rw [h]; decide
      · omega
    have hez : ¬ e = 0 → x = [] ∧ n = 0 := fun he => by
      rcases hr with ⟨_, h⟩ | ⟨_, o, _, h⟩
      · cases h; exact ⟨rfl, rfl⟩
      · cases o
        · cases h; exact ⟨rfl, rfl⟩
        · cases h; exact absurd rfl he
    obtain ⟨k, rfl⟩ : ∃ k : Nat, n = (k : Int) := ⟨n.toNat, by omega⟩
    unfold fin at hq
    simp only [List.length_drop, List.drop_drop, Int.toNat_natCast] at hq
    split at hq
    · rename_i h1
      obtain ⟨rfl, h2⟩ := hez h1
      obtain rfl : k = 0 := by omega
      exact .inr (.inr (.inl ⟨_, h6, hh, hr, h1, hq⟩))
    · rename_i h1
      obtain rfl : e = 0 := by omega
      split at hq
      · rename_i h2; exact .inr (.inr (.inr (.inl ⟨_, _, h6, hh, hr, i1, hxl, by omega, by omega, hq⟩)))
      · split at hq
        · rename_i h2 h3; exact .inr (.inr (.inr (.inr (.inl ⟨_, _, h6, hh, hr, i1, hxl, by omega, by omega, hq⟩))))
        · split at hq
          · rename_i h2 h3 h4; exact .inr (.inr (.inr (.inr (.inr (.inr ⟨_, _, h6, hh, hr, i1, hxl, by omega, by omega, h4, hq⟩)))))
          · rename_i h2 h3 h4; exact .inr (.inr (.inr (.inr (.inr (.inl ⟨_, _, h6, hh, hr, i1, hxl, by omega, by omega, h4, hq⟩)))))
theorem nU.OO {B : List Int} {mo : Int} {q : List Int × Int} (hB : az B) (hm : mo < 500000000) (h : nU B mo q) :
    (B.length < 6 ∧ q = ([], 2)) ∨ (6 ≤ B.length ∧ ¬ Hd (B.getD 0 0) (B.getD 1 0) ∧ q = ([], 4)) ∨
    (∃ (x : List Int) (n : Nat) (e : Int), 6 ≤ B.length ∧ Hd (B.getD 0 0) (B.getD 1 0) ∧ jU (B.drop 2) mo (x, (n : Int), e) ∧ az x ∧ x.length < 500000000 ∧ n ≤ B.length - 2 ∧
      ((¬ e = 0 ∧ q = ([], e)) ∨ (e = 0 ∧ B.length - (2 + n) < 4 ∧ q = ([], 2)) ∨ (e = 0 ∧ 4 < B.length - (2 + n) ∧ q = ([], 4)) ∨ (e = 0 ∧ B.length - (2 + n) = 4 ∧ ¬ B.drop (2 + n) = kU x ∧ q = ([], 5)) ∨ (e = 0 ∧ B.length - (2 + n) = 4 ∧ B.drop (2 + n) = kU x ∧ q = (x, 0)))) := by
  rcases h.ways hB hm with h | h | ⟨e, a, b, c, d, r⟩ | ⟨x, n, a, b, c, d, f, g, r⟩ | ⟨x, n, a, b, c, d, f, g, r⟩ | ⟨x, n, a, b, c, d, f, g, r⟩ | ⟨x, n, a, b, c, d, f, g, r⟩
  · exact .inl h
  · exact .inr (.inl h)
  · exact .inr (.inr ⟨[], 0, e, a, b, c, fun x hx => (by cases hx), by decide, by omega, .inl ⟨d, r⟩⟩)
  · exact .inr (.inr ⟨x, n, 0, a, b, c, d, f, g, .inr (.inl ⟨rfl, r⟩)⟩)
  · exact .inr (.inr ⟨x, n, 0, a, b, c, d, f, g, .inr (.inr (.inl ⟨rfl, r⟩))⟩)
  · exact .inr (.inr ⟨x, n, 0, a, b, c, d, f, g, .inr (.inr (.inr (.inl ⟨rfl, r⟩)))⟩)
  · exact .inr (.inr ⟨x, n, 0, a, b, c, d, f, g, .inr (.inr (.inr (.inr ⟨rfl, r⟩)))⟩)
theorem ba {l : List Int} (h : az l) : ∀ x ∈ l, 0 ≤ x ∧ x < 256 := h
def zS (B : List Int) : List Int := [120, 1] ++ n5 B ++ kU B
theorem rW {a : Int} {l : List Int} (h : 0 ≤ a ∧ a < 256) (k : az l) : az (a :: l) := fun x hx => by
  rcases List.mem_cons.1 hx with rfl | hx
  · exact h
  · exact k x hx
theorem N8 : Hd 120 1 := by unfold Hd; decide
end Go.aL
namespace Go.aa
open Go.ak
def eC (a b : Int) : Int := ((a.toNat ^^^ b.toNat : Nat) : Int)
theorem qQ {a b : Int} {n : Nat} (ha : 0 ≤ a ∧ a < 2 ^ n) (hb : 0 ≤ b ∧ b < 2 ^ n) : 0 ≤ eC a b ∧ eC a b < 2 ^ n := by
  have h1 : a.toNat < 2 ^ n := by have : ((a.toNat : Nat) : Int) < ((2 ^ n : Nat) : Int) := by push_cast; omega
                                  omega
  have h2 : b.toNat < 2 ^ n := by have : ((b.toNat : Nat) : Int) < ((2 ^ n : Nat) : Int) := by push_cast; omega
                                  omega
  have h := Nat.xor_lt_two_pow h1 h2
  refine ⟨Int.natCast_nonneg _, ?_⟩
  have : ((a.toNat ^^^ b.toNat : Nat) : Int) < ((2 ^ n : Nat) : Int) := by omega
  simpa [eC] using this
theorem vn {a b : Int} (ha : 0 ≤ a ∧ a < 4294967296) (hb : 0 ≤ b ∧ b < 4294967296) : IntKind.u32.wrap ((BitVec.ofInt IntKind.u32.bits a ^^^ BitVec.ofInt IntKind.u32.bits b).toNat : Int) = eC a b := by
  obtain ⟨x, rfl⟩ : ∃ x : Nat, a = (x : Int) := ⟨a.toNat, by omega⟩
  obtain ⟨y, rfl⟩ : ∃ y : Nat, b = (y : Int) := ⟨b.toNat, by omega⟩
  have e : IntKind.u32.bits = 32 := rfl
  have h := qQ (n := 32) ha hb
  rw [e, BitVec.toNat_xor, eF, eF, Nat.mod_eq_of_lt (by omega), Nat.mod_eq_of_lt (by omega)]
  simp only [eC, Int.toNat_natCast] at h ⊢
  exact aL.wrap32 h.1 (by have := h.2; omega)
theorem P5 {a b : Int} (ha : 0 ≤ a ∧ a < 256) (hb : 0 ≤ b ∧ b < 256) : IntKind.u8.wrap ((BitVec.ofInt IntKind.u8.bits a ^^^ BitVec.ofInt IntKind.u8.bits b).toNat : Int) = eC a b := by
  obtain ⟨x, rfl⟩ : ∃ x : Nat, a = (x : Int) := ⟨a.toNat, by omega⟩
  obtain ⟨y, rfl⟩ : ∃ y : Nat, b = (y : Int) := ⟨b.toNat, by omega⟩
  have e : IntKind.u8.bits = 8 := rfl
  have h := qQ (n := 8) ha hb
  rw [e, BitVec.toNat_xor, eF, eF, Nat.mod_eq_of_lt (by omega), Nat.mod_eq_of_lt (by omega)]
  simp only [eC, Int.toNat_natCast] at h ⊢
  exact Sl.lq h.1 (by have := h.2; omega)
theorem vo {a : Int} (ha : 0 ≤ a ∧ a < 4294967296) : IntKind.u32.wrap ((BitVec.ofInt IntKind.u32.bits 4294967295 ^^^ BitVec.ofInt IntKind.u32.bits a).toNat : Int) = 4294967295 - a := by
  obtain ⟨x, rfl⟩ : ∃ x : Nat, a = (x : Int) := ⟨a.toNat, by omega⟩
  have e : IntKind.u32.bits = 32 := rfl
  have e1 : BitVec.ofInt 32 4294967295 = BitVec.allOnes 32 := by decide
  rw [e, e1, BitVec.xor_comm, BitVec.xor_allOnes, BitVec.toNat_not, eF, Nat.mod_eq_of_lt (by omega), aL.wrap32 (by omega) (by omega)]
  omega
def pN (x : Nat) : Nat := if x % 2 = 1 then (x / 2) ^^^ 3988292384 else x / 2
def kM : Nat → Nat → Nat
  | 0, x => x
  | k + 1, x => pN (kM k x)
theorem D7 (a b : Nat) : (a ^^^ b) % 2 = (a % 2 + b % 2) % 2 := by
  have h := Nat.testBit_xor a b 0
  simp only [Nat.testBit_zero] at h
  have ha : a % 2 = 0 ∨ a % 2 = 1 := by omega
  have hb : b % 2 = 0 ∨ b % 2 = 1 := by omega
  have hc : (a ^^^ b) % 2 = 0 ∨ (a ^^^ b) % 2 = 1 := by omega
  rcases ha with ha | ha <;> rcases hb with hb | hb <;> rcases hc with hc | hc <;> rw [ha, hb, hc] at h <;> first | omega | (exfalso; revert h; decide)
theorem E5 (a b : Nat) : (a ^^^ b) / 2 = (a / 2) ^^^ (b / 2) := by
  refine Nat.eq_of_testBit_eq fun i => ?_
  simp only [Nat.testBit_div_two, Nat.testBit_xor]
theorem JB (a b : Nat) : pN (a ^^^ b) = pN a ^^^ pN b := by
  have h2 := D7 a b
  have ha : a % 2 = 0 ∨ a % 2 = 1 := by omega
  have hb : b % 2 = 0 ∨ b % 2 = 1 := by omega
  unfold pN
  rw [E5]
  rcases ha with ha | ha <;> rcases hb with hb | hb <;> rw [h2, ha, hb]
  · simp
  · simp [Nat.xor_assoc]
  · simp only [Nat.reduceAdd, Nat.reduceMod, if_pos, if_neg, Nat.zero_ne_one, not_false_eq_true]
    rw [Nat.xor_assoc, Nat.xor_comm (b / 2), ← Nat.xor_assoc]
  · simp only [Nat.reduceAdd, Nat.reduceMod, if_pos, Nat.zero_ne_one, if_false]
    rw [Nat.xor_assoc, Nat.xor_comm 3988292384, Nat.xor_assoc, Nat.xor_self, Nat.xor_zero]
theorem Kp (k a b : Nat) : kM k (a ^^^ b) = kM k a ^^^ kM k b := by
  induction k with
  | zero => rfl
  | succ k ih => simp only [kM, ih, JB]
theorem HF (a : Nat) : pN (2 * a) = a := by unfold pN; rw [if_neg (by omega)]; omega
theorem M9 (h : Nat) : kM 8 (256 * h) = h := by
  have e : ∀ k m : Nat, kM k (2 ^ k * m) = m := by
    intro k
    induction k with
    | zero => intro m; simp [kM]
    | succ k ih => intro m; rw [kM, Nat.pow_succ, Nat.mul_assoc, ih, HF]
  exact e 8 h
theorem DT (s : Nat) : s = (256 * (s / 256)) ^^^ (s % 256) := by
  have h := Nat.two_pow_add_eq_or_of_lt (i := 8) (b := s % 256) (by omega) (s / 256)
  have h2 : (2 ^ 8 * (s / 256)) ^^^ (s % 256) = (2 ^ 8 * (s / 256)) ||| (s % 256) := by
    refine Nat.eq_of_testBit_eq fun i => ?_
    rw [Nat.testBit_xor, Nat.testBit_or]
    rcases Nat.lt_or_ge i 8 with hi | hi
    · rw [Nat.testBit_two_pow_mul, decide_eq_false (by omega)]; simp
    · have : (s % 256).testBit i = false := Nat.testBit_lt_two_pow (Nat.lt_of_lt_of_le (by omega : s % 256 < 2 ^ 8) (Nat.pow_le_pow_right (by decide) hi))
      rw [this]; simp
  have e : 2 ^ 8 * (s / 256) = 256 * (s / 256) := by omega
  rw [e] at h h2
  omega
theorem BI (s c : Nat) (hc : c < 256) : kM 8 (s ^^^ c) = kM 8 ((s % 256) ^^^ c) ^^^ (s / 256) := by
  conv => lhs; rw [DT s]
  rw [Nat.xor_assoc, Kp, M9, Nat.xor_comm]
end Go.aa
namespace Go.aa
open Go.ak
theorem NF {x : Nat} (h : x < 4294967296) : pN x < 4294967296 := by
  unfold pN
  split
  · exact Nat.xor_lt_two_pow (n := 32) (by omega) (by decide)
  · omega
theorem zO {x : Nat} (h : x < 4294967296) : ∀ k, kM k x < 4294967296
  | 0 => h
  | k + 1 => NF (zO h k)
def gN (x : Int) : Int := ((kM 8 x.toNat : Nat) : Int)
theorem yK {x : Int} (h : 0 ≤ x ∧ x < 4294967296) : 0 ≤ gN x ∧ gN x < 4294967296 := by
  have := zO (x := x.toNat) (by omega) 8
  unfold gN; omega
theorem CH {s c : Int} (hs : 0 ≤ s) (hc : 0 ≤ c ∧ c < 256) : gN (eC s c) = eC (gN (eC (s % 256) c)) (s / 256) := by
  obtain ⟨a, rfl⟩ : ∃ a : Nat, s = (a : Int) := ⟨s.toNat, by omega⟩
  obtain ⟨b, rfl⟩ : ∃ b : Nat, c = (b : Int) := ⟨c.toNat, by omega⟩
  have e1 : ((a : Int) % 256).toNat = a % 256 := by omega
  have e2 : ((a : Int) / 256).toNat = a / 256 := by omega
  simp only [gN, eC, Int.toNat_natCast, e1, e2]
  rw [BI a b (by omega)]
def gk (s : Int) (l : List Int) : Int := l.foldl (fun s c => gN (eC s c)) s
theorem oq : ∀ {l : List Int} {s : Int}, az l → 0 ≤ s ∧ s < 4294967296 → 0 ≤ gk s l ∧ gk s l < 4294967296
  | [], s, _, h => h
  | c :: l, s, hl, h => by
    have hc := hl c (by simp)
    exact oq (l := l) (fun x hx => hl x (by simp [hx])) (yK (by have := qQ (n := 32) (a := s) (b := c) (by omega) (by omega); omega))
theorem w6 {l : List Int} {s : Int} {i : Nat} (h : i < l.length) : gk s (l.take (i + 1)) = gN (eC (gk s (l.take i)) (l.getD i 0)) := by
  rw [ad.kp h]; simp [gk]
def qm (s : Int) (l : List Int) : Int := 4294967295 - gk (4294967295 - s) l
theorem tQ {s : Int} {l : List Int} (hs : 0 ≤ s ∧ s < 4294967296) (hl : az l) : 0 ≤ qm s l ∧ qm s l < 4294967296 := by
  have := oq (l := l) (s := 4294967295 - s) hl (by omega)
  unfold qm; omega
structure Ch where
  k : List Int
  d : List Int
def il (k d : List Int) : Int := qm (qm 0 k) d
def kG (c : Int) : Prop := (97 ≤ c ∧ c ≤ 122) ∨ (65 ≤ c ∧ c ≤ 90)
instance (c : Int) : Decidable (kG c) := by unfold kG; infer_instance
def ev (k : List Int) : Prop := k.length = 4 ∧ ∀ c ∈ k, kG c
instance (k : List Int) : Decidable (ev k) := by unfold ev; infer_instance
def dv : List Int := [73, 72, 68, 82]
def bC : List Int := [80, 76, 84, 69]
def bZ : List Int := [116, 82, 78, 83]
def cm : List Int := [73, 68, 65, 84]
def cD : List Int := [73, 69, 78, 68]
def fx : List Int := [137, 80, 78, 71, 13, 10, 26, 10]
def first (L : List Int) : Except Int Ch :=
  if L.length < 12 then .error 2
  else if 2147483647 < aL.cW L ∨ ¬ ev ((L.drop 4).take 4) then .error 4
  else if (L.length : Int) - 12 < aL.cW L then .error 2
  else if aL.cW (L.drop (8 + (aL.cW L).toNat)) = il ((L.drop 4).take 4) ((L.drop 8).take (aL.cW L).toNat) then .ok ⟨(L.drop 4).take 4, (L.drop 8).take (aL.cW L).toNat⟩
  else .error 5
theorem od {L : List Int} (h : az L) : 0 ≤ aL.cW L ∧ aL.cW L < 4294967296 := by
  have h0 := h.get 0; have h1 := h.get 1; have h2 := h.get 2; have h3 := h.get 3
  unfold aL.cW; omega
theorem Lq {L : List Int} (hL : az L) : (L.length < 12 ∧ first L = .error 2) ∨ ∃ n : Nat, 12 ≤ L.length ∧ aL.cW L = (n : Int) ∧ n < 4294967296 ∧
    ((2147483647 < n ∧ first L = .error 4) ∨ (n ≤ 2147483647 ∧ ¬ ev ((L.drop 4).take 4) ∧ first L = .error 4) ∨ (n ≤ 2147483647 ∧ ev ((L.drop 4).take 4) ∧ L.length < 12 + n ∧ first L = .error 2) ∨
     (12 + n ≤ L.length ∧ ev ((L.drop 4).take 4) ∧ aL.cW (L.drop (8 + n)) = il ((L.drop 4).take 4) ((L.drop 8).take n) ∧ first L = .ok ⟨(L.drop 4).take 4, (L.drop 8).take n⟩ ∧ n ≤ 2147483647) ∨
     (12 + n ≤ L.length ∧ ev ((L.drop 4).take 4) ∧ ¬ aL.cW (L.drop (8 + n)) = il ((L.drop 4).take 4) ((L.drop 8).take n) ∧ first L = .error 5 ∧ n ≤ 2147483647)) := by
  rcases Nat.lt_or_ge L.length 12 with h | h
  · exact .inl ⟨h, by unfold first; rw [if_pos h]⟩
  · right
    have hn := od hL
    obtain ⟨n, e⟩ : ∃ n : Nat, aL.cW L = (n : Int) := ⟨(aL.cW L).toNat, by omega⟩
    refine ⟨n, h, e, by omega, ?_⟩
    unfold first
    rw [if_neg (by omega), e, Int.toNat_natCast]
    by_cases h1 : 2147483647 < n
    · exact .inl ⟨h1, by rw [if_pos (.inl (by omega))]⟩
    · by_cases h2 : ev ((L.drop 4).take 4)
      · rw [if_neg (by rintro (h | h); omega; exact h h2)]
        by_cases h3 : L.length < 12 + n
        · exact .inr (.inr (.inl ⟨by omega, h2, h3, by rw [if_pos (by omega)]⟩))
        · rw [if_neg (by omega)]
          by_cases h4 : aL.cW (L.drop (8 + n)) = il ((L.drop 4).take 4) ((L.drop 8).take n)
          · exact .inr (.inr (.inr (.inl ⟨by omega, h2, h4, by rw [if_pos h4], by omega⟩)))
          · exact .inr (.inr (.inr (.inr ⟨by omega, h2, h4, by rw [if_neg h4], by omega⟩)))
      · exact .inr (.inl ⟨by omega, h2, by rw [if_pos (.inr h2)]⟩)
def gB : Nat → List Int → List Ch → Except Int (List Ch)
  | 0, _, _ => .error 2
  | f + 1, L, l => match first L with
    | .error e => .error e
    | .ok c => if c.k = cD then (if L.length - (12 + c.d.length) = 0 then .ok (l ++ [c]) else .error 4) else gB f (L.drop (12 + c.d.length)) (l ++ [c])
def cut (B : List Int) : Except Int (List Ch) :=
  if 262144 < B.length then .error 3 else if B.length < 8 then .error 2 else if B.take 8 = fx then gB (B.length + 1) (B.drop 8) [] else .error 4
structure Wk where
  plte : Bool
  trns : Bool
  dr : Bool
  kL : Bool
def gK (k : List Int) : Prop := ev k ∧ k.getD 0 0 ≤ 90
instance (k : List Int) : Decidable (gK k) := by unfold gK; infer_instance
def da (w : Wk) (c : Ch) : Wk × Bool :=
  if c.k = cm then (⟨w.plte, w.trns, true, w.kL⟩, !w.kL)
  else if c.k = bC then (if w.trns then (⟨w.plte, w.trns, w.dr, w.dr⟩, false) else (⟨true, w.trns, w.dr, w.dr⟩, !w.plte && !w.dr))
  else if c.k = bZ then (⟨w.plte, true, w.dr, w.dr⟩, !w.trns && !w.dr)
  else (⟨w.plte, w.trns, w.dr, w.dr⟩, decide (ev c.k) && !decide (gK c.k))
def walk : List Ch → Wk → Option Wk
  | [], w => some w
  | c :: l, w => if (da w c).2 then walk l (da w c).1 else none
def dS (l : List Ch) : Bool :=
  decide (3 ≤ l.length) && (l.map Ch.k).getD 0 [] == dv && (l.map (·.d.length)).getD 0 0 == 13 && (l.map Ch.k).getD (l.length - 1) [] == cD && (l.map (·.d.length)).getD (l.length - 1) 0 == 0 &&
    (match walk ((l.drop 1).take (l.length - 2)) ⟨false, false, false, false⟩ with | some w => w.dr | none => false)
end Go.aa
namespace Go.aa
open Go.ak
structure Od where
  iT : Nat
  ends : Nat
  iY : Nat
  gG : Nat
  hJ : Nat
def eI (n i : Nat) (prev : List Int) (c : Ch) (s : Od) : Option Od :=
  if c.k = dv then (if 0 < i ∨ c.d.length ≠ 13 then none else some { s with iT := s.iT + 1 })
  else if c.k = cD then (if i + 1 < n ∨ 0 < c.d.length then none else some { s with ends := s.ends + 1 })
  else if c.k = cm then (if 0 < s.hJ ∧ prev ≠ cm then none else some { s with hJ := s.hJ + 1 })
  else if c.k = bC then (if 0 < s.hJ ∨ 0 < s.gG then none else some { s with iY := s.iY + 1 })
  else if c.k = bZ then (if 0 < s.hJ then none else some { s with gG := s.gG + 1 })
  else if ¬ ev c.k ∨ gK c.k then none else some s
def ss (s : Od) : Bool := decide (s.iT = 1) && decide (s.ends = 1) && decide (1 ≤ s.hJ) && decide (s.iY ≤ 1) && decide (s.gG ≤ 1)
def lK (n : Nat) : Nat → List Int → List Ch → Od → Bool
  | _, _, [], s => ss s
  | i, prev, c :: l, s => match eI n i prev c s with | none => false | some s2 => lK n (i + 1) c.k l s2
theorem Ds {n i : Nat} {prev : List Int} {c : Ch} {s s2 : Od} (h : eI n i prev c s = some s2) : s.iY ≤ s2.iY ∧ s.gG ≤ s2.gG ∧ s.iT ≤ s2.iT ∧ (0 < i → s2.iT = s.iT) := by
  unfold eI at h
  split at h
  · split at h
    · cases h
    · rename_i h1 h2; cases h; exact ⟨Nat.le_refl _, Nat.le_refl _, by simp, fun h => absurd (.inl h) h2⟩
  · split at h
    · split at h <;> cases h; simp
    · split at h
      · split at h <;> cases h; simp
      · split at h
        · split at h <;> cases h; simp
        · split at h
          · split at h <;> cases h; simp
          · split at h <;> cases h; simp
theorem tI {n : Nat} : ∀ {l : List Ch} {i : Nat} {prev : List Int} {s : Od}, (1 < s.iY ∨ 1 < s.gG ∨ (0 < i ∧ s.iT = 0)) → lK n i prev l s = false
  | [], i, prev, s, h => by
    unfold lK ss
    rcases h with h | h | h
    · rw [decide_eq_false (p := s.iY ≤ 1) (by omega)]; simp
    · rw [decide_eq_false (p := s.gG ≤ 1) (by omega)]; simp
    · rw [decide_eq_false (p := s.iT = 1) (by omega)]; simp
  | c :: l, i, prev, s, h => by
    unfold lK
    split
    · rfl
    · rename_i s2 h2
      have g := Ds h2
      refine tI ?_
      rcases h with h | h | h
      · exact .inl (by omega)
      · exact .inr (.inl (by omega))
      · exact .inr (.inr ⟨by omega, by rw [g.2.2.2 h.1]; exact h.2⟩)
def qM (l : List Ch) (w : Wk) : Bool :=
  (match walk (l.take (l.length - 1)) w with | some w => w.dr | none => false) && (l.map Ch.k).getD (l.length - 1) [] == cD && (l.map (·.d.length)).getD (l.length - 1) 0 == 0
structure Wi (prev : List Int) (s : Od) (w : Wk) : Prop where
  iT : s.iT = 1
  ends : s.ends = 0
  plte : w.plte = decide (0 < s.iY)
  trns : w.trns = decide (0 < s.gG)
  dr : w.dr = decide (0 < s.hJ)
  kL : w.kL = decide (0 < s.hJ ∧ prev ≠ cm)
  one : s.iY ≤ 1 ∧ s.gG ≤ 1
theorem CG {k : List Int} (h : k = dv ∨ k = cD) : ev k ∧ gK k := by
  rcases h with rfl | rfl <;> decide
theorem AH {c c2 : Ch} {l : List Ch} {w : Wk} : qM (c :: c2 :: l) w = (if (da w c).2 then qM (c2 :: l) (da w c).1 else false) := by
  unfold qM
  have e : (c :: c2 :: l).take ((c :: c2 :: l).length - 1) = c :: (c2 :: l).take ((c2 :: l).length - 1) := by simp
  have e4 : ((c :: c2 :: l).map Ch.k).getD ((c :: c2 :: l).length - 1) [] = ((c2 :: l).map Ch.k).getD ((c2 :: l).length - 1) [] := rfl
  have e5 : ((c :: c2 :: l).map (·.d.length)).getD ((c :: c2 :: l).length - 1) 0 = ((c2 :: l).map (·.d.length)).getD ((c2 :: l).length - 1) 0 := rfl
  rw [e, e4, e5, walk]
  cases h : (da w c).2
  · simp only [Bool.false_eq_true, if_false, Bool.false_and]
  · simp only [if_true]
theorem GY {n i : Nat} {prev : List Int} {c : Ch} {s : Od} {w : Wk} (hi : 0 < i) (hn : i + 1 = n) (h : Wi prev s w) : lK n i prev [c] s = qM [c] w := by
  have hp := h.one
  have e : qM [c] w = (w.dr && (c.k == cD) && (c.d.length == 0)) := by simp [qM, walk]
  rw [e, h.dr]
  unfold lK eI
  by_cases h1 : c.k = dv
  · rw [if_pos h1, if_pos (.inl hi)]
    have : (c.k == cD) = false := by rw [h1]; decide
    simp [this]
  · rw [if_neg h1]
    by_cases h2 : c.k = cD
    · rw [if_pos h2]
      by_cases h3 : 0 < c.d.length
      · rw [if_pos (.inr h3)]
        have : (c.d.length == 0) = false := by simp; intro h; rw [h] at h3; simp at h3
        rw [this]; simp
      · rw [if_neg (by rintro (h | h); omega; exact h3 h)]
        simp only [lK, ss, h.iT, h.ends]
        have e1 : (c.k == cD) = true := by rw [h2]; decide
        have e2 : (c.d.length == 0) = true := by simp; exact List.length_eq_zero_iff.1 (by omega)
        rw [e1, e2, decide_eq_true hp.1, decide_eq_true hp.2]
        simp
        omega
    · have e1 : (c.k == cD) = false := by simpa using h2
      rw [if_neg h2, e1]
      simp only [Bool.and_false, Bool.false_and]
      split
      · rfl
      · rename_i s2 hs
        have he : s2.ends = 0 := by
          have hend := h.ends
          split at hs
          · split at hs <;> cases hs; exact hend
          · split at hs
            · split at hs <;> cases hs; exact hend
            · split at hs
              · split at hs <;> cases hs; exact hend
              · split at hs <;> cases hs; exact hend
        simp [lK, ss, he]
theorem qw {n : Nat} : ∀ {l : List Ch} {i : Nat} {prev : List Int} {s : Od} {w : Wk}, l ≠ [] → 0 < i → i + l.length = n → Wi prev s w → lK n i prev l s = qM l w
  | [], i, prev, s, w, h, _, _, _ => absurd rfl h
  | [c], i, prev, s, w, _, hi, hn, h => GY hi (by simpa using hn) h
  | c :: c2 :: l, i, prev, s, w, _, hi, hn, h => by
    have hn2 : i + 1 + (c2 :: l).length = n := by simp only [List.length_cons] at hn ⊢; omega
    have hlt : i + 1 < n := by simp only [List.length_cons] at hn; omega
    have hp := h.one
    rw [AH]
    rw [lK]
    by_cases h1 : c.k = dv
    · have hc := CG (.inl h1)
      rw [show eI n i prev c s = none by unfold eI; rw [if_pos h1, if_pos (.inl hi)]]
      have : (da w c).2 = false := by
        unfold da
        rw [if_neg (by rw [h1]; decide), if_neg (by rw [h1]; decide), if_neg (by rw [h1]; decide)]
        simp [hc.1, hc.2]
      rw [this]; rfl
    by_cases h2 : c.k = cD
    · have hc := CG (.inr h2)
      rw [show eI n i prev c s = none by unfold eI; rw [if_neg h1, if_pos h2, if_pos (.inl hlt)]]
      have : (da w c).2 = false := by
        unfold da
        rw [if_neg (by rw [h2]; decide), if_neg (by rw [h2]; decide), if_neg (by rw [h2]; decide)]
        simp [hc.1, hc.2]
      rw [this]; rfl
    by_cases h3 : c.k = cm
    · have e : da w c = (⟨w.plte, w.trns, true, w.kL⟩, !w.kL) := by unfold da; rw [if_pos h3]
      rw [e]
      by_cases h4 : 0 < s.hJ ∧ prev ≠ cm
      · rw [show eI n i prev c s = none by unfold eI; rw [if_neg h1, if_neg h2, if_pos h3, if_pos h4]]
        rw [h.kL, decide_eq_true h4]; rfl
      · rw [show eI n i prev c s = some { s with hJ := s.hJ + 1 } by unfold eI; rw [if_neg h1, if_neg h2, if_pos h3, if_neg h4]]
        rw [h.kL, decide_eq_false h4]
        simp only [Bool.not_false, if_true]
        refine qw (by simp) (by omega) hn2 ⟨h.iT, h.ends, h.plte, h.trns, by simp, ?_, hp⟩
        simp [h3]
    by_cases h4 : c.k = bC
    · by_cases h5 : 0 < s.hJ ∨ 0 < s.gG
      · rw [show eI n i prev c s = none by unfold eI; rw [if_neg h1, if_neg h2, if_neg h3, if_pos h4, if_pos h5]]
        have : (da w c).2 = false := by
          unfold da
          rw [if_neg h3, if_pos h4, h.trns, h.dr]
          by_cases h6 : 0 < s.gG
          · simp [h6]
          · have h7 : 0 < s.hJ := by omega
            simp [h6, h7]
        rw [this]; rfl
      · have h6 : ¬ 0 < s.gG := fun hh => h5 (.inr hh)
        have h7 : ¬ 0 < s.hJ := fun hh => h5 (.inl hh)
        rw [show eI n i prev c s = some { s with iY := s.iY + 1 } by unfold eI; rw [if_neg h1, if_neg h2, if_neg h3, if_pos h4, if_neg h5]]
        have e : da w c = (⟨true, w.trns, w.dr, w.dr⟩, !w.plte && !w.dr) := by
          unfold da
          rw [if_neg h3, if_pos h4, h.trns]
          simp [h6]
        rw [e, h.plte, h.dr]
        by_cases h8 : 0 < s.iY
        · rw [show (!decide (0 < s.iY) && !decide (0 < s.hJ)) = false by simp [h8]]
          simp only [Bool.false_eq_true, if_false]
          exact tI (.inl (by simp only; omega))
        · rw [show (!decide (0 < s.iY) && !decide (0 < s.hJ)) = true by simp [h8, h7]]
          simp only [if_true]
          refine qw (by simp) (by omega) hn2 ⟨h.iT, h.ends, by simp, h.trns, by simp [h7], ?_, by simp only; omega, hp.2⟩
          simp [h7]
    by_cases h5 : c.k = bZ
    · have e : da w c = (⟨w.plte, true, w.dr, w.dr⟩, !w.trns && !w.dr) := by unfold da; rw [if_neg h3, if_neg h4, if_pos h5]
      rw [e, h.trns, h.dr]
      by_cases h7 : 0 < s.hJ
      · rw [show eI n i prev c s = none by unfold eI; rw [if_neg h1, if_neg h2, if_neg h3, if_neg h4, if_pos h5, if_pos h7]]
        simp [h7]
      · rw [show eI n i prev c s = some { s with gG := s.gG + 1 } by unfold eI; rw [if_neg h1, if_neg h2, if_neg h3, if_neg h4, if_pos h5, if_neg h7]]
        by_cases h8 : 0 < s.gG
        · rw [show (!decide (0 < s.gG) && !decide (0 < s.hJ)) = false by simp [h8]]
          simp only [Bool.false_eq_true, if_false]
          exact tI (.inr (.inl (by simp only; omega)))
        · rw [show (!decide (0 < s.gG) && !decide (0 < s.hJ)) = true by simp [h8, h7]]
          simp only [if_true]
          refine qw (by simp) (by omega) hn2 ⟨h.iT, h.ends, h.plte, by simp, by simp [h7], ?_, hp.1, by simp only; omega⟩
          simp [h7]
    · have e : da w c = (⟨w.plte, w.trns, w.dr, w.dr⟩, decide (ev c.k) && !decide (gK c.k)) := by unfold da; rw [if_neg h3, if_neg h4, if_neg h5]
      rw [e]
      by_cases h6 : ¬ ev c.k ∨ gK c.k
      · rw [show eI n i prev c s = none by unfold eI; rw [if_neg h1, if_neg h2, if_neg h3, if_neg h4, if_neg h5, if_pos h6]]
        have : (decide (ev c.k) && !decide (gK c.k)) = false := by
          rcases h6 with h | h <;> simp [h]
        simp [this]
      · rw [show eI n i prev c s = some s by unfold eI; rw [if_neg h1, if_neg h2, if_neg h3, if_neg h4, if_neg h5, if_neg h6]]
        have : (decide (ev c.k) && !decide (gK c.k)) = true := by
          have a : ev c.k := Classical.byContradiction fun hh => h6 (.inl hh)
          have b : ¬ gK c.k := fun hh => h6 (.inr hh)
          simp [a, b]
        simp only [this, if_true]
        refine qw (by simp) (by omega) hn2 ⟨h.iT, h.ends, h.plte, h.trns, h.dr, ?_, hp⟩
        rw [h.dr]
        have : c.k ≠ cm := h3
        simp [this]
theorem Ht (l : List Ch) : lK l.length 0 [] l ⟨0, 0, 0, 0, 0⟩ = dS l := by
  match l with
  | [] => rfl
  | [c] =>
    have e : dS [c] = false := by simp [dS]
    rw [e]
    unfold lK
    split
    · rfl
    · rename_i s2 h
      unfold eI at h
      simp only [lK, ss]
      split at h
      · split at h <;> cases h; simp
      · split at h
        · split at h <;> cases h; simp
        · split at h
          · split at h <;> cases h; simp
          · split at h
            · split at h <;> cases h; simp
            · split at h
              · split at h <;> cases h; simp
              · split at h <;> cases h; simp
  | c :: c2 :: l =>
    rw [lK]
    by_cases h1 : c.k = dv
    · by_cases h2 : c.d.length = 13
      · rw [show eI (c :: c2 :: l).length 0 [] c ⟨0, 0, 0, 0, 0⟩ = some ⟨1, 0, 0, 0, 0⟩ by unfold eI; rw [if_pos h1, if_neg (by rintro (h | h); omega; exact h h2)]]
        simp only
        rw [qw (w := ⟨false, false, false, false⟩) (by simp) (by omega) (by simp only [List.length_cons]; omega) ⟨rfl, rfl, by simp, by simp, by simp, by simp, by simp, by simp⟩]
        unfold dS qM
        have e1 : ((c :: c2 :: l).map Ch.k).getD 0 [] = dv := h1
        have e2 : ((c :: c2 :: l).map (·.d.length)).getD 0 0 = 13 := h2
        have e3 : ((c :: c2 :: l).drop 1).take ((c :: c2 :: l).length - 2) = (c2 :: l).take ((c2 :: l).length - 1) := by simp
        have e4 : ((c :: c2 :: l).map Ch.k).getD ((c :: c2 :: l).length - 1) [] = ((c2 :: l).map Ch.k).getD ((c2 :: l).length - 1) [] := rfl
        have e5 : ((c :: c2 :: l).map (·.d.length)).getD ((c :: c2 :: l).length - 1) 0 = ((c2 :: l).map (·.d.length)).getD ((c2 :: l).length - 1) 0 := rfl
        rw [e1, e2, e3, e4, e5]
        rcases Nat.eq_zero_or_pos l.length with h0 | h0
        · have hl : l = [] := List.length_eq_zero_iff.1 h0
          subst hl
          simp [walk]
        · rw [decide_eq_true (p := 3 ≤ (c :: c2 :: l).length) (by simp only [List.length_cons]; omega)]
          rw [show (dv == dv) = true by decide, show ((13 : Nat) == 13) = true from rfl]
          have hb : ∀ a b m : Bool, (m && a && b) = (true && true && true && a && b && m) := by decide
          exact hb _ _ _
      · rw [show eI (c :: c2 :: l).length 0 [] c ⟨0, 0, 0, 0, 0⟩ = none by unfold eI; rw [if_pos h1, if_pos (.inr h2)]]
        have e2 : ((c :: c2 :: l).map (·.d.length)).getD 0 0 = c.d.length := rfl
        have e3 : (c.d.length == 13) = false := by simpa using h2
        unfold dS
        rw [e2, e3]
        simp
    · have e1 : ((c :: c2 :: l).map Ch.k).getD 0 [] = c.k := rfl
      have e3 : (c.k == dv) = false := by simpa using h1
      have e4 : dS (c :: c2 :: l) = false := by unfold dS; rw [e1, e3]; simp
      rw [e4]
      split
      · rfl
      · rename_i s2 h
        have hz : s2.iT = 0 := by
          unfold eI at h
          rw [if_neg h1] at h
          split at h
          · split at h <;> cases h; rfl
          · split at h
            · split at h <;> cases h; rfl
            · split at h
              · split at h <;> cases h; rfl
              · split at h
                · split at h <;> cases h; rfl
                · split at h <;> cases h; rfl
        exact tI (.inr (.inr ⟨by omega, hz⟩))
end Go.aa
namespace Go.aa
open Go.ak
def off (a b : Int) : Int := max (a - b) (b - a)
def rF (a b c : Int) : Int :=
  if off (a + b - c) a ≤ off (a + b - c) b ∧ off (a + b - c) a ≤ off (a + b - c) c then a else if off (a + b - c) b ≤ off (a + b - c) c then b else c
def pB (kind a b c : Int) : Int := if kind = 1 then a else if kind = 2 then b else if kind = 3 then (a + b) / 2 else if kind = 4 then rF a b c else 0
def gz (l : List Int) (i back : Nat) : Int := if i < back then 0 else l.getD (i - back) 0
def kt (kind : Int) (row above : List Int) (back : Nat) (out : List Int) (i : Nat) : Int := (row.getD i 0 + pB kind (gz out i back) (above.getD i 0) (gz above i back)) % 256
def jD (kind : Int) (row above : List Int) (back : Nat) : Nat → List Int
  | 0 => []
  | i + 1 => jD kind row above back i ++ [kt kind row above back (jD kind row above back i) i]
def gw (kind : Int) (row above : List Int) (back : Nat) : List Int := jD kind row above back row.length
theorem nc (kind : Int) (row above : List Int) (back : Nat) : ∀ i, (jD kind row above back i).length = i
  | 0 => rfl
  | i + 1 => by simp [jD, nc kind row above back i]
theorem uv (kind : Int) (row above : List Int) (back : Nat) : (gw kind row above back).length = row.length := nc ..
theorem rK (kind : Int) (row above : List Int) (back : Nat) : ∀ i, az (jD kind row above back i)
  | 0 => fun x hx => by cases hx
  | i + 1 => aT.az.snoc (rK kind row above back i) (by unfold kt; omega)
theorem IJ {a b : List Int} {i back : Nat} (ha : a.length = i) (hb : 0 < back) : gz (a ++ b) i back = gz a i back := by
  unfold gz
  split
  · rfl
  · rw [List.getD_eq_getElem?_getD, List.getD_eq_getElem?_getD, List.getElem?_append_left (by omega)]
theorem FG {l : List Int} (h : az l) (i back : Nat) : 0 ≤ gz l i back ∧ gz l i back < 256 := by
  unfold gz
  split
  · decide
  · exact h.get _
structure Ps where
  x : Int
  y : Int
  dx : Int
  dy : Int
  w : Int
  h : Int
def many (frm step end_ : Int) : Int := if end_ ≤ frm then 0 else (end_ - frm + step - 1) / step
def tx (x y dx dy w h : Int) : Ps := ⟨x, y, dx, dy, many x dx w, many y dy h⟩
def jc (w h : Int) : List Ps := [tx 0 0 8 8 w h, tx 4 0 8 8 w h, tx 0 4 4 8 w h, tx 2 0 4 4 w h, tx 0 2 2 4 w h, tx 1 0 2 2 w h, tx 0 1 1 2 w h]
def gq (w h : Int) : List Ps := (jc w h).filter fun p => decide (0 < p.w) && decide (0 < p.h)
def whole (w h : Int) : List Ps := [⟨0, 0, 1, 1, w, h⟩]
def bS (w h : Int) : Int := if w < 1 ∨ h < 1 then 1 else if 256 < w ∨ 256 < h ∨ 16384 / h < w then 6 else 0
def fh (w bits : Int) : Int := (w * bits + 7) / 8
def gb (l : List Ps) (bits : Int) : Int := (l.map fun p => if 0 < p.w then p.h * (1 + fh p.w bits) else 0).sum
structure Hd where
  w : Int
  h : Int
  dep : Int
  ay : Int
  cC : Bool
def parts (c : Int) : Int := if c = 0 ∨ c = 3 then 1 else if c = 2 then 3 else if c = 4 then 2 else if c = 6 then 4 else 0
def deep (c d : Int) : Prop := (c = 0 ∧ (d = 1 ∨ d = 2 ∨ d = 4 ∨ d = 8 ∨ d = 16)) ∨ (c = 3 ∧ (d = 1 ∨ d = 2 ∨ d = 4 ∨ d = 8)) ∨ ((c = 2 ∨ c = 4 ∨ c = 6) ∧ (d = 8 ∨ d = 16))
instance (c d : Int) : Decidable (deep c d) := by unfold deep; infer_instance
def aO (B : List Int) : Hd := ⟨aL.cW B, aL.cW (B.drop 4), B.getD 8 0, B.getD 9 0, decide (B.getD 12 0 = 1)⟩
def eY (B : List Int) : Int :=
  if B.length ≠ 13 then 4
  else if ¬ deep (aO B).ay (aO B).dep ∨ 0 < B.getD 10 0 + B.getD 11 0 ∨ 1 < B.getD 12 0 ∨ (aO B).w = 0 ∨ (aO B).h = 0 then 4
  else if bS (aO B).w (aO B).h = 0 then 0 else 6
def ij (B : List Int) (i : Nat) : Int := B.getD (i / 8) 0 / 2 ^ (7 - i % 8) % 2
def c4 (B : List Int) (at_ : Nat) : Nat → Int
  | 0 => 0
  | n + 1 => 2 * c4 B at_ n + ij B (at_ + n)
structure Fl where
  hd : Hd
  plte : List Int
  trns : List Int
def cI (l : List Ch) (k : List Int) : List Int := match l.find? (fun c => c.k == k) with | some c => c.d | none => []
def fI (l : List Ch) (k : List Int) : Bool := l.any fun c => c.k == k
def dr (l : List Ch) : List Int := (l.filter fun c => c.k == cm).flatMap (·.d)
def o9 (h : Hd) (plte : List Int) (has : Bool) (trns : List Int) (is : Bool) : Prop :=
  (if has then ¬ (h.ay = 0 ∨ h.ay = 4) ∧ (h.ay = 3 → (plte.length : Int) / 3 ≤ 2 ^ h.dep.toNat) ∧ plte.length % 3 = 0 ∧ 0 < plte.length ∧ plte.length / 3 ≤ 256 else h.ay ≠ 3) ∧
  (is = true → (h.ay = 3 ∧ trns.length ≤ plte.length / 3) ∨ (h.ay = 0 ∧ trns.length = 2) ∨ (h.ay = 2 ∧ trns.length = 6))
instance (h : Hd) (plte : List Int) (has : Bool) (trns : List Int) (is : Bool) : Decidable (o9 h plte has trns is) := by unfold o9; infer_instance
def fF (h : Hd) (row : List Int) (x : Nat) : List Int := (List.range (parts h.ay).toNat).map fun i => c4 row (x * (parts h.ay).toNat * h.dep.toNat + i * h.dep.toNat) h.dep.toNat
def Mp (h : Hd) (v : Int) : Int := v * (65535 / (2 ^ h.dep.toNat - 1))
def bH (h : Hd) (trns : List Int) : List Int := if h.ay = 0 ∨ h.ay = 2 then (List.range (trns.length / 2)).map fun i => (trns.getD (2 * i) 0 * 256 + trns.getD (2 * i + 1) 0) % 2 ^ h.dep.toNat else []
def je (f : Fl) (v : List Int) : Option (List Int) :=
  if f.hd.ay = 3 then
    (if (f.plte.length / 3 : Nat) ≤ (v.getD 0 0).toNat then none
     else some [f.plte.getD (3 * (v.getD 0 0).toNat) 0 * 257, f.plte.getD (3 * (v.getD 0 0).toNat + 1) 0 * 257, f.plte.getD (3 * (v.getD 0 0).toNat + 2) 0 * 257, if (v.getD 0 0).toNat < f.trns.length then f.trns.getD (v.getD 0 0).toNat 0 * 257 else 65535])
  else
    let u := v.map (Mp f.hd)
    let a := if 0 < (bH f.hd f.trns).length ∧ v = bH f.hd f.trns then 0 else if f.hd.ay = 4 ∨ f.hd.ay = 6 then u.getD (u.length - 1) 0 else 65535
    if f.hd.ay = 0 ∨ f.hd.ay = 4 then some [u.getD 0 0, u.getD 0 0, u.getD 0 0, a] else some [u.getD 0 0, u.getD 1 0, u.getD 2 0, a]
def l5 (w : Int) (dG : List Int) (x y : Int) (c : List Int) : List Int := dG.take (4 * (y * w + x)).toNat ++ c ++ dG.drop ((4 * (y * w + x)).toNat + 4)
def gO (f : Fl) (p : Ps) (y : Int) (row : List Int) : Nat → Nat → List Int → Option (List Int)
  | 0, _, dG => some dG
  | k + 1, i, dG => match je f (fF f.hd row i) with
    | none => none
    | some c => gO f p y row k (i + 1) (l5 f.hd.w dG (p.x + i * p.dx) (p.y + y * p.dy) c)
def fz (f : Fl) (D : List Int) (n back : Nat) (p : Ps) : Nat → Nat → Nat → List Int → List Int → Option (Nat × List Int)
  | 0, _, at_, _, dG => some (at_, dG)
  | k + 1, y, at_, above, dG =>
    if 4 < D.getD at_ 0 then none
    else match gO f p y (gw (D.getD at_ 0) ((D.drop (at_ + 1)).take n) above back) p.w.toNat 0 dG with
    | none => none
    | some pix2 => fz f D n back p k (y + 1) (at_ + 1 + n) (gw (D.getD at_ 0) ((D.drop (at_ + 1)).take n) above back) pix2
def bitsOf (h : Hd) : Int := parts h.ay * h.dep
def gT (f : Fl) (D : List Int) : List Ps → Nat → List Int → Option (List Int)
  | [], _, dG => some dG
  | p :: l, at_, dG => match fz f D (fh p.w (bitsOf f.hd)).toNat (max 1 (bitsOf f.hd / 8)).toNat p p.h.toNat 0 at_ [] dG with
    | none => none
    | some (at2, pix2) => gT f D l at2 pix2
def bB (h : Hd) : List Ps := if h.cC then gq h.w h.h else whole h.w h.h
structure tp where
  w : Int
  h : Int
  dG : List Int
def fo : tp := ⟨0, 0, []⟩
def ot (B : List Int) (r : tp × Int) : Prop :=
  match cut B with
  | .error e => r = (fo, e)
  | .ok l =>
    if dS l = false then r = (fo, 4)
    else if eY ((l.map Ch.d).getD 0 []) ≠ 0 then r = (fo, eY ((l.map Ch.d).getD 0 []))
    else if ¬ o9 (aO ((l.map Ch.d).getD 0 [])) (cI l bC) (fI l bC) (cI l bZ) (fI l bZ) then r = (fo, 4)
    else ∃ q, aL.nU (dr l) (gb (bB (aO ((l.map Ch.d).getD 0 []))) (bitsOf (aO ((l.map Ch.d).getD 0 [])))) q ∧
      if q.2 ≠ 0 then r = (fo, q.2)
      else if (q.1.length : Int) < gb (bB (aO ((l.map Ch.d).getD 0 []))) (bitsOf (aO ((l.map Ch.d).getD 0 []))) then r = (fo, 2)
      else match gT ⟨aO ((l.map Ch.d).getD 0 []), cI l bC, cI l bZ⟩ q.1 (bB (aO ((l.map Ch.d).getD 0 []))) 0 (List.replicate (4 * (aO ((l.map Ch.d).getD 0 [])).w * (aO ((l.map Ch.d).getD 0 [])).h).toNat 0) with
        | none => r = (fo, 4)
        | some dG => r = (⟨(aO ((l.map Ch.d).getD 0 [])).w, (aO ((l.map Ch.d).getD 0 [])).h, dG⟩, 0)
end Go.aa
namespace Go.aa
open Go.ak
theorem zq {frm step e k : Int} (hs : step = 1 ∨ step = 2 ∨ step = 4 ∨ step = 8) (hk : 0 ≤ k) : frm + k * step < e ↔ k < many frm step e := by
  unfold many
  rcases hs with rfl | rfl | rfl | rfl <;> split <;> omega
theorem zp {frm step e : Int} (hs : step = 1 ∨ step = 2 ∨ step = 4 ∨ step = 8) : 0 ≤ many frm step e := by
  unfold many
  rcases hs with rfl | rfl | rfl | rfl <;> split <;> omega
theorem zt {frm step e : Int} (hf : 0 ≤ frm) (he : 0 ≤ e) (hs : step = 1 ∨ step = 2 ∨ step = 4 ∨ step = 8) : many frm step e ≤ e := by
  unfold many
  rcases hs with rfl | rfl | rfl | rfl <;> split <;> omega
theorem rn (B : List Int) (i : Nat) : 0 ≤ ij B i ∧ ij B i ≤ 1 := by unfold ij; omega
theorem mF (B : List Int) (at_ : Nat) : ∀ n : Nat, 0 ≤ c4 B at_ n ∧ c4 B at_ n < 2 ^ n
  | 0 => by simp [c4]
  | n + 1 => by
    have ih := mF B at_ n
    have hb := rn B (at_ + n)
    simp only [c4]
    have e : (2 : Int) ^ (n + 1) = 2 * 2 ^ n := by rw [Int.pow_succ]; omega
    rw [e]
    omega
theorem sK (B : List Int) (at_ m : Nat) : ∀ n, c4 B at_ (m + n) = c4 B at_ m * 2 ^ n + c4 B (at_ + m) n
  | 0 => by simp [c4]
  | n + 1 => by
    have ih := sK B at_ m n
    have e : c4 B at_ m * (2 ^ n * 2) = (c4 B at_ m * 2 ^ n) * 2 := (Int.mul_assoc _ _ _).symm
    rw [← Nat.add_assoc, c4, ih, c4, Int.pow_succ, e, Nat.add_assoc]
    omega
theorem lf (B : List Int) (j k : Nat) (hk : k < 8) : ij B (8 * j + k) = B.getD j 0 / 2 ^ (7 - k) % 2 := by
  unfold ij
  rw [show (8 * j + k) / 8 = j by omega, show (8 * j + k) % 8 = k by omega]
theorem Dw (B : List Int) (a : Nat) : c4 B a 8 = 2 * (2 * (2 * (2 * (2 * (2 * (2 * (2 * 0 + ij B (a + 0)) + ij B (a + 1)) + ij B (a + 2)) + ij B (a + 3)) + ij B (a + 4)) + ij B (a + 5)) + ij B (a + 6)) + ij B (a + 7) := rfl
theorem Ny {x : Int} (h : 0 ≤ x ∧ x < 256) : 2 * (2 * (2 * (2 * (2 * (2 * (2 * (2 * 0 + x / 128 % 2) + x / 64 % 2) + x / 32 % 2) + x / 16 % 2) + x / 8 % 2) + x / 4 % 2) + x / 2 % 2) + x / 1 % 2 = x := by omega
theorem m9 {B : List Int} {j : Nat} (hb : 0 ≤ B.getD j 0 ∧ B.getD j 0 < 256) : c4 B (8 * j) 8 = B.getD j 0 := by
  rw [Dw, lf B j 0 (by decide), lf B j 1 (by decide), lf B j 2 (by decide), lf B j 3 (by decide), lf B j 4 (by decide), lf B j 5 (by decide), lf B j 6 (by decide), lf B j 7 (by decide)]
  exact Ny hb
theorem qU {B : List Int} {j : Nat} (hb : 0 ≤ B.getD j 0 ∧ B.getD j 0 < 256) (hc : 0 ≤ B.getD (j + 1) 0 ∧ B.getD (j + 1) 0 < 256) : c4 B (8 * j) 16 = B.getD j 0 * 256 + B.getD (j + 1) 0 := by
  have h := sK B (8 * j) 8 8
  rw [m9 hb, show 8 * j + 8 = 8 * (j + 1) by omega, m9 hc] at h
  simpa using h
end Go.aa
namespace Go.aa
open Go.ak
def n9 (n : Int) : List Int := [n / 16777216 % 256, n / 65536 % 256, n / 256 % 256, n % 256]
theorem yV (n : Int) : (n9 n).length = 4 := rfl
theorem yM (n : Int) : az (n9 n) := fun x hx => by
  simp only [n9, List.mem_cons, List.not_mem_nil, or_false] at hx
  rcases hx with rfl | rfl | rfl | rfl <;> omega
theorem yd {n : Int} (h : 0 ≤ n ∧ n < 4294967296) (r : List Int) : aL.cW (n9 n ++ r) = n := by
  simp only [aL.cW, n9, List.cons_append, List.nil_append, List.getD_cons_zero, List.getD_cons_succ]
  omega
def iD (c : Ch) : List Int := n9 (c.d.length : Int) ++ (c.k ++ (c.d ++ n9 (il c.k c.d)))
theorem lN {c : Ch} (hk : c.k.length = 4) : (iD c).length = 12 + c.d.length := by
  simp only [iD, List.length_append, yV, hk]; omega
def mC (c : Ch) : Prop := ev c.k ∧ az c.d ∧ c.d.length ≤ 2147483647
theorem rq {k : List Int} (h : ev k) : az k := fun x hx => by
  have := h.2 x hx
  unfold kG at this; omega
theorem Mq {k d : List Int} (hk : az k) (hd : az d) : 0 ≤ il k d ∧ il k d < 4294967296 := tQ (tQ (by decide) hk) hd
theorem Ig {c : Ch} (h : mC c) : az (iD c) := aT.az.app (yM _) (aT.az.app (rq h.1) (aT.az.app h.2.1 (yM _)))
theorem tu {c : Ch} (h : mC c) (r : List Int) : first (iD c ++ r) = .ok c := by
  obtain ⟨hk, hd, hl⟩ := h
  have h4 := hk.1
  have hs := Mq (rq hk) hd
  have e0 : iD c ++ r = n9 (c.d.length : Int) ++ (c.k ++ (c.d ++ (n9 (il c.k c.d) ++ r))) := by simp [iD]
  have d4 : (iD c ++ r).drop 4 = c.k ++ (c.d ++ (n9 (il c.k c.d) ++ r)) := by rw [e0]; exact List.drop_left' rfl
  have e1 : ((iD c ++ r).drop 4).take 4 = c.k := by rw [d4]; exact List.take_left' h4
  have d8 : (iD c ++ r).drop 8 = c.d ++ (n9 (il c.k c.d) ++ r) := by
    rw [show 8 = 4 + 4 from rfl, ← List.drop_drop, d4]
    exact List.drop_left' h4
  have e2 : ((iD c ++ r).drop 8).take c.d.length = c.d := by rw [d8]; exact List.take_left
  have e3 : (iD c ++ r).drop (8 + c.d.length) = n9 (il c.k c.d) ++ r := by
    rw [← List.drop_drop, d8]; exact List.drop_left
  have e4 : aL.cW (iD c ++ r) = (c.d.length : Int) := by rw [e0]; exact yd (by omega) _
  have e5 : (iD c ++ r).length = 12 + c.d.length + r.length := by rw [List.length_append, lN h4]
  unfold first
  rw [if_neg (by omega), e4, Int.toNat_natCast, e1, if_neg (by rintro (h | h); omega; exact h hk), if_neg (by omega), e2, e3, yd hs, if_pos rfl]
def jK (l : List Ch) : List Int := l.flatMap iD
theorem uR {e : Ch} (he : mC e) (hek : e.k = cD) : ∀ (l : List Ch) (f : Nat) (a : List Ch), (∀ c ∈ l, mC c ∧ c.k ≠ cD) → l.length < f → gB f (jK (l ++ [e])) a = .ok (a ++ (l ++ [e]))
  | [], f, a, _, hf => by
    obtain ⟨f, rfl⟩ : ∃ g, f = g + 1 := ⟨f - 1, by simp at hf; omega⟩
    have e1 : jK ([] ++ [e]) = iD e ++ [] := by simp [jK]
    rw [e1, gB, tu he]
    simp only
    rw [if_pos hek, List.append_nil, lN he.1.1, Nat.sub_self, if_pos rfl]
    simp
  | c :: l, f, a, hl, hf => by
    obtain ⟨f, rfl⟩ : ∃ g, f = g + 1 := ⟨f - 1, by simp at hf; omega⟩
    have hc := hl c (by simp)
    have e1 : jK (c :: l ++ [e]) = iD c ++ jK (l ++ [e]) := by simp [jK]
    have e2 : (iD c ++ jK (l ++ [e])).drop (12 + c.d.length) = jK (l ++ [e]) := List.drop_left' (lN hc.1.1.1)
    rw [e1, gB, tu hc.1]
    simp only
    rw [if_neg hc.2, e2, uR he hek l f _ (fun x hx => hl x (by simp [hx])) (by simp at hf; omega)]
    simp
theorem rE : ∀ l : List Ch, (∀ c ∈ l, mC c) → l.length ≤ (jK l).length
  | [], _ => Nat.zero_le _
  | c :: l, h => by
    have ih := rE l (fun x hx => h x (by simp [hx]))
    have := lN (h c (by simp)).1.1
    have e : jK (c :: l) = iD c ++ jK l := by simp [jK]
    rw [e, List.length_append, List.length_cons]
    omega
def cS (l : List Ch) : List Int := fx ++ jK l
theorem DQ {l : List Ch} {e : Ch} (he : mC e) (hek : e.k = cD) (hl : ∀ c ∈ l, mC c ∧ c.k ≠ cD) (hn : (cS (l ++ [e])).length ≤ 262144) : cut (cS (l ++ [e])) = .ok (l ++ [e]) := by
  have h8 : (cS (l ++ [e])).length = 8 + (jK (l ++ [e])).length := by simp [cS, fx]; omega
  have e1 : (cS (l ++ [e])).take 8 = fx := List.take_left' rfl
  have e2 : (cS (l ++ [e])).drop 8 = jK (l ++ [e]) := List.drop_left' rfl
  have hge := rE (l ++ [e]) (fun c hc => by
    rcases List.mem_append.1 hc with h | h
    · exact (hl c h).1
    · rw [List.mem_singleton.1 h]; exact he)
  unfold cut
  rw [if_neg (by omega), if_neg (by omega), if_pos e1, e2]
  have := uR he hek l ((cS (l ++ [e])).length + 1) [] hl (by rw [List.length_append, List.length_singleton] at hge; omega)
  simpa using this
theorem BH {l : List Ch} (h : ∀ c ∈ l, mC c) : az (cS l) := by
  have hs : az fx := by unfold az; decide
  refine aT.az.app hs (fun x hx => ?_)
  obtain ⟨c, hc, hx⟩ := List.mem_flatMap.1 hx
  exact Ig (h c hc) x hx
end Go.aa
namespace Go.aa
open Go.ak
def fJ (l : List Ch) : List Int := (l.map Ch.d).getD 0 []
def wB (l : List Ch) : Fl := ⟨aO (fJ l), cI l bC, cI l bZ⟩
def want (h : Hd) : Int := gb (bB h) (bitsOf h)
def mA (h : Hd) : List Int := List.replicate (4 * h.w * h.h).toNat 0
inductive Pw (B : List Int) (r : tp × Int) : Prop
  | cut (e : Int) (h : cut B = .error e) (hr : r = (fo, e))
  | ord (l : List Ch) (h : aa.cut B = .ok l) (ho : dS l = false) (hr : r = (fo, 4))
  | head (l : List Ch) (h : aa.cut B = .ok l) (ho : dS l = true) (hh : eY (fJ l) ≠ 0) (hr : r = (fo, eY (fJ l)))
  | table (l : List Ch) (h : aa.cut B = .ok l) (ho : dS l = true) (hh : eY (fJ l) = 0) (ht : ¬ o9 (aO (fJ l)) (cI l bC) (fI l bC) (cI l bZ) (fI l bZ)) (hr : r = (fo, 4))
  | open_ (l : List Ch) (q : List Int × Int) (h : aa.cut B = .ok l) (ho : dS l = true) (hh : eY (fJ l) = 0) (ht : o9 (aO (fJ l)) (cI l bC) (fI l bC) (cI l bZ) (fI l bZ)) (hq : aL.nU (dr l) (want (aO (fJ l))) q)
      (hr : (q.2 ≠ 0 ∧ r = (fo, q.2)) ∨ (q.2 = 0 ∧ (q.1.length : Int) < want (aO (fJ l)) ∧ r = (fo, 2)) ∨
        (q.2 = 0 ∧ want (aO (fJ l)) ≤ q.1.length ∧ gT (wB l) q.1 (bB (aO (fJ l))) 0 (mA (aO (fJ l))) = none ∧ r = (fo, 4)) ∨
        ∃ dG, q.2 = 0 ∧ want (aO (fJ l)) ≤ q.1.length ∧ gT (wB l) q.1 (bB (aO (fJ l))) 0 (mA (aO (fJ l))) = some dG ∧ r = (⟨(aO (fJ l)).w, (aO (fJ l)).h, dG⟩, 0))
theorem ot.ways {B : List Int} {r : tp × Int} (h : ot B r) : Pw B r := by
  unfold ot at h
  cases hc : cut B with
  | error e => rw [hc] at h; exact .cut e hc h
  | ok l =>
    rw [hc] at h
    simp only at h
    split at h
    · rename_i ho; exact .ord l hc ho h
    · rename_i ho
      have ho : dS l = true := by simpa using ho
      split at h
      · rename_i hh; exact .head l hc ho hh h
      · rename_i hh
        have hh : eY (fJ l) = 0 := by simpa [fJ] using hh
        split at h
        · rename_i ht; exact .table l hc ho hh ht h
        · rename_i ht
          have ht := Classical.not_not.1 ht
          obtain ⟨q, hq, h⟩ := h
          refine .open_ l q hc ho hh ht hq ?_
          split at h
          · rename_i h1; exact .inl ⟨h1, h⟩
          · rename_i h1
            have h1 : q.2 = 0 := by simpa using h1
            split at h
            · rename_i h2; exact .inr (.inl ⟨h1, h2, h⟩)
            · rename_i h2
              have h2 : want (aO (fJ l)) ≤ q.1.length := Int.not_lt.1 h2
              split at h
              · rename_i h3; exact .inr (.inr (.inl ⟨h1, h2, h3, h⟩))
              · rename_i dG h3; exact .inr (.inr (.inr ⟨dG, h1, h2, h3, h⟩))
theorem xh : ∀ {f : Nat} {L : List Int} {a l : List Ch}, az L → (∀ c ∈ a, az c.d) → gB f L a = .ok l → ∀ c ∈ l, az c.d
  | 0, L, a, l, _, _, h => by cases h
  | f + 1, L, a, l, hL, ha, h => by
    rw [gB] at h
    split at h
    · cases h
    · rename_i c hc
      have hd : az c.d := by
        unfold first at hc
        split at hc
        · cases hc
        · split at hc
          · cases hc
          · split at hc
            · cases hc
            · split at hc
              · cases hc
                exact fun x hx => hL x (List.mem_of_mem_drop (List.mem_of_mem_take hx))
              · cases hc
      have ha2 : ∀ y ∈ a ++ [c], az y.d := fun y hy => by
        rcases List.mem_append.1 hy with hy | hy
        · exact ha y hy
        · rw [List.mem_singleton.1 hy]; exact hd
      split at h
      · split at h
        · cases h; exact ha2
        · cases h
      · exact xh (fun x hx => hL x (List.mem_of_mem_drop hx)) ha2 h
theorem iw {B : List Int} {l : List Ch} (hB : az B) (h : cut B = .ok l) : ∀ c ∈ l, az c.d := by
  unfold cut at h
  split at h
  · cases h
  · split at h
    · cases h
    · split at h
      · exact xh (fun x hx => hB x (List.mem_of_mem_drop hx)) (fun c hc => by cases hc) h
      · cases h
theorem r3 {l : List Ch} (h : ∀ c ∈ l, az c.d) : az (dr l) := fun x hx => by
  obtain ⟨c, hc, hx⟩ := List.mem_flatMap.1 hx
  exact h c (List.mem_filter.1 hc).1 x hx
end Go.aa
namespace Go.aa
open Go.ak Go.ad
theorem pS : ∀ (f : Nat) {B : List Int}, B.length ≤ 65535 * (f + 1) → az B → ∀ X ∈ aT.jo f B, X.length ≤ 65535 ∧ az X
  | 0, B, h, hB, X, hX => by
    simp only [aT.jo, List.mem_singleton] at hX
    subst hX
    exact ⟨by omega, hB⟩
  | f + 1, B, h, hB, X, hX => by
    unfold aT.jo at hX
    split at hX
    · simp only [List.mem_singleton] at hX
      subst hX
      exact ⟨by omega, hB⟩
    · rcases List.mem_cons.1 hX with rfl | hX
      · exact ⟨by rw [List.length_take]; omega, fun x hx => hB x (List.mem_of_mem_take hx)⟩
      · exact pS f (by rw [List.length_drop]; omega) (fun x hx => hB x (List.mem_of_mem_drop hx)) X hX
theorem zu {B : List Int} (hl : B.length ≤ 4194304) (hB : az B) : az (aT.iN B) := sk _ (pS 64 (by omega) hB)
theorem JS {B : List Int} {mo mo' : Int} {q : List Int × Int × Int} (hB : az B) (h : jU B mo q) (he : q.2.2 = 0) (hl : (q.1.length : Int) ≤ mo') : jU B mo' q := by
  rcases h with ⟨_, rfl⟩ | ⟨h0, o, ho, rfl⟩
  · exact absurd he (by decide)
  · cases o with
    | error e => exact absurd he (HE ho rfl)
    | ok p =>
      obtain ⟨x, n⟩ := p
      exact .inr ⟨by have : (x.length : Int) ≤ mo' := hl; omega, _, (yW hB ho (oP h0) x n rfl).2.1 hl, rfl⟩
def cP (B : List Int) : List Int := [120, 1] ++ aT.iN B ++ aL.kU B
theorem yI (B : List Int) : cP B = 120 :: 1 :: (aT.iN B ++ aL.kU B) := by simp [cP]
theorem pY {B : List Int} (h : B.length ≤ 4194304) : (cP B).length = B.length + 5 * ((B.length - 1) / 65535 + 1) + 6 := by
  simp only [cP, List.length_append, aT.uy h, aL.ug, List.length_cons, List.length_nil]; omega
theorem Kw {B : List Int} {mo : Int} (hB : az B) (hl : B.length ≤ 4194304) (hm : (B.length : Int) ≤ mo) : aL.nU (cP B) mo (B, 0) := by
  have hs := aT.uy hl
  have hr := (aT.Ik (t := aL.kU B) hl hB (aL.rj B)).1
  have hb : az (aT.iN B ++ aL.kU B) := aT.az.app (zu hl hB) (aL.rj B)
  rw [yI]
  refine .inr (.inr ⟨by simp [aL.ug], aL.N8, _, JS hb hr rfl hm, ?_⟩)
  have e1 : (aT.iN B ++ aL.kU B).length - (aT.iN B).length = 4 := by rw [List.length_append, aL.ug]; omega
  have e2 : (aT.iN B ++ aL.kU B).drop (aT.iN B).length = aL.kU B := List.drop_left
  simp only [aL.fin, List.drop_succ_cons, List.drop_zero, Int.toNat_natCast, not_true_eq_false, if_false, e1, e2]
  rw [if_neg (by decide), if_neg (by decide), if_pos trivial]
theorem Ky {B : List Int} (hB : az B) (hl : B.length ≤ 4194304) : az (cP B) := by
  rw [yI]
  exact aL.rW (by decide) (aL.rW (by decide) (aT.az.app (zu hl hB) (aL.rj B)))
end Go.aa
namespace Go.aa
open Go.ak
def two (l : List Int) : List Int := l.flatMap fun s => [s / 256, s % 256]
theorem yP (l : List Int) : (two l).length = 2 * l.length := by
  induction l with
  | nil => rfl
  | cons a l ih => simp only [two, List.flatMap_cons, List.length_append, List.length_cons, List.length_nil] at ih ⊢; omega
theorem zg : ∀ (l : List Int) (m : Nat), m < l.length → (two l).getD (2 * m) 0 = l.getD m 0 / 256 ∧ (two l).getD (2 * m + 1) 0 = l.getD m 0 % 256
  | [], m, h => by simp at h
  | a :: l, 0, _ => ⟨rfl, rfl⟩
  | a :: l, m + 1, h => by
    have ih := zg l m (by simpa using h)
    have e : two (a :: l) = (a / 256) :: (a % 256) :: two l := rfl
    rw [e, show 2 * (m + 1) = 2 * m + 1 + 1 by omega, show 2 * m + 1 + 1 + 1 = (2 * m + 1) + 1 + 1 by omega]
    simpa using ih
def sT (l : List Int) : Prop := ∀ x ∈ l, 0 ≤ x ∧ x < 65536
theorem sT.get {l : List Int} (h : sT l) (i : Nat) : 0 ≤ l.getD i 0 ∧ l.getD i 0 < 65536 := by
  rcases Nat.lt_or_ge i l.length with k | k
  · rw [List.getD_eq_getElem?_getD, List.getElem?_eq_getElem k]; exact h _ (List.getElem_mem k)
  · rw [List.getD_eq_getElem?_getD, List.getElem?_eq_none k]; decide
theorem uM {l : List Int} (h : sT l) : az (two l) := fun x hx => by
  obtain ⟨s, hs, hx⟩ := List.mem_flatMap.1 hx
  have := h s hs
  simp only [List.mem_cons, List.not_mem_nil, or_false] at hx
  rcases hx with rfl | rfl <;> omega
def jf (P : List Int) (W y : Nat) : List Int := two ((P.drop (4 * W * y)).take (4 * W))
def du (P : List Int) (W : Nat) : Nat → List Int
  | 0 => []
  | y + 1 => du P W y ++ (0 :: jf P W y)
theorem wJ {P : List Int} {W H y : Nat} (hP : P.length = 4 * W * H) (hy : y < H) : (jf P W y).length = 8 * W := by
  have : 4 * W * (y + 1) ≤ 4 * W * H := Nat.mul_le_mul_left _ hy
  rw [Nat.mul_succ] at this
  rw [jf, yP, List.length_take, List.length_drop]; omega
theorem sA {P : List Int} {W H : Nat} (hP : P.length = 4 * W * H) : ∀ y, y ≤ H → (du P W y).length = y * (1 + 8 * W)
  | 0, _ => by simp [du]
  | y + 1, h => by
    have e : (y + 1) * (1 + 8 * W) = y * (1 + 8 * W) + (1 + 8 * W) := Nat.succ_mul _ _
    rw [du, List.length_append, sA hP y (by omega), List.length_cons, wJ hP (by omega), e]; omega
theorem rQ (P : List Int) (W y : Nat) : ∀ k, ∃ r, du P W (y + k) = du P W y ++ r
  | 0 => ⟨[], by simp⟩
  | k + 1 => by
    obtain ⟨r, h⟩ := rQ P W y k
    exact ⟨r ++ (0 :: jf P W (y + k)), by rw [← Nat.add_assoc, du, h, List.append_assoc]⟩
theorem GJ {P : List Int} {W H y : Nat} (hP : P.length = 4 * W * H) (hy : y < H) : (du P W H).getD (y * (1 + 8 * W)) 0 = 0 ∧ ((du P W H).drop (y * (1 + 8 * W) + 1)).take (8 * W) = jf P W y := by
  obtain ⟨r, h⟩ := rQ P W (y + 1) (H - (y + 1))
  rw [show y + 1 + (H - (y + 1)) = H by omega, du, List.append_assoc, List.cons_append] at h
  have hl := sA hP y (by omega)
  have hr := wJ hP hy
  rw [h]
  constructor
  · rw [List.getD_eq_getElem?_getD, List.getElem?_append_right (by omega), hl, Nat.sub_self]; rfl
  · rw [← List.drop_drop, ← hl, List.drop_left, List.drop_succ_cons, List.drop_zero, ← hr, List.take_left]
theorem oX {P : List Int} (W : Nat) (h : sT P) : ∀ y, az (du P W y)
  | 0 => fun x hx => by cases hx
  | y + 1 => aT.az.app (oX W h y) (aL.rW (by decide) (uM (fun x hx => h x (List.mem_of_mem_drop (List.mem_of_mem_take hx)))))
end Go.aa
namespace Go.aa
open Go.ak
theorem MW {row above : List Int} {back : Nat} (h : az row) : gw 0 row above back = row := by
  have e : ∀ i, i ≤ row.length → jD 0 row above back i = row.take i := by
    intro i
    induction i with
    | zero => intro _; simp [jD]
    | succ i ih =>
      intro hi
      have hb := h.get i
      rw [jD, ih (by omega), ad.kp (by omega)]
      have e0 : ∀ a b c : Int, pB 0 a b c = 0 := fun a b c => by unfold pB; simp
      have e1 : kt 0 row above back (row.take i) i = row.getD i 0 := by
        unfold kt
        rw [e0, Int.add_zero]
        omega
      rw [e1]
  rw [gw, e _ (Nat.le_refl _), List.take_length]
def gm (w h : Int) : Hd := ⟨w, h, 16, 6, false⟩
theorem HZ {P : List Int} {W H y m : Nat} (hP : P.length = 4 * W * H) (hy : y < H) (hm : m < 4 * W) : (jf P W y).getD (2 * m) 0 = P.getD (4 * W * y + m) 0 / 256 ∧ (jf P W y).getD (2 * m + 1) 0 = P.getD (4 * W * y + m) 0 % 256 := by
  have hle : 4 * W * (y + 1) ≤ 4 * W * H := Nat.mul_le_mul_left _ hy
  rw [Nat.mul_succ] at hle
  have hl : ((P.drop (4 * W * y)).take (4 * W)).length = 4 * W := by rw [List.length_take, List.length_drop]; omega
  have h := zg ((P.drop (4 * W * y)).take (4 * W)) m (by omega)
  have e : ((P.drop (4 * W * y)).take (4 * W)).getD m 0 = P.getD (4 * W * y + m) 0 := by
    rw [List.getD_eq_getElem?_getD, List.getD_eq_getElem?_getD, List.getElem?_take_of_lt hm, List.getElem?_drop]
  rw [e] at h
  exact h
theorem JN {P : List Int} {W H y x : Nat} (w h : Int) (hU : sT P) (hP : P.length = 4 * W * H) (hy : y < H) (hx : x < W) : fF (gm w h) (jf P W y) x = [P.getD (4 * (W * y + x)) 0, P.getD (4 * (W * y + x) + 1) 0, P.getD (4 * (W * y + x) + 2) 0, P.getD (4 * (W * y + x) + 3) 0] := by
  have hb : az (jf P W y) := uM (fun z hz => hU z (List.mem_of_mem_drop (List.mem_of_mem_take hz)))
  have e : ∀ i, i < 4 → c4 (jf P W y) (x * 4 * 16 + i * 16) 16 = P.getD (4 * (W * y + x) + i) 0 := fun i hi => by
    have g := HZ (m := 4 * x + i) hP hy (by omega)
    have hu := hU.get (4 * W * y + (4 * x + i))
    have h16 := qU (hb.get (8 * x + 2 * i)) (hb.get (8 * x + 2 * i + 1))
    rw [show 8 * x + 2 * i = 2 * (4 * x + i) by omega, g.1, g.2] at h16
    rw [show x * 4 * 16 + i * 16 = 8 * (2 * (4 * x + i)) by omega, h16]
    have e3 : 4 * W * y + (4 * x + i) = 4 * (W * y + x) + i := by rw [Nat.mul_add, ← Nat.mul_assoc]; omega
    rw [e3] at hu ⊢
    omega
  have hp : fF (gm w h) (jf P W y) x = [c4 (jf P W y) (x * 4 * 16 + 0 * 16) 16, c4 (jf P W y) (x * 4 * 16 + 1 * 16) 16, c4 (jf P W y) (x * 4 * 16 + 2 * 16) 16, c4 (jf P W y) (x * 4 * 16 + 3 * 16) 16] := rfl
  rw [hp, e 0 (by decide), e 1 (by decide), e 2 (by decide), e 3 (by decide), Nat.add_zero]
theorem MF (w h : Int) (plte trns : List Int) (a b c d : Int) : je ⟨gm w h, plte, trns⟩ [a, b, c, d] = some [a, b, c, d] := by
  have e : ∀ v, Mp (gm w h) v = v := fun v => by
    have : (65535 : Int) / (2 ^ (16 : Int).toNat - 1) = 1 := by decide
    simp only [Mp, gm, this, Int.mul_one]
  unfold je
  simp only [gm] at e ⊢
  rw [if_neg (by decide)]
  have hc : bH ⟨w, h, 16, 6, false⟩ trns = [] := by unfold bH; simp
  simp only [hc, List.length_nil, Nat.lt_irrefl, false_and, if_false, List.map_cons, List.map_nil, e]
  rw [if_neg (by decide)]
  simp
def laid (P : List Int) (k : Nat) : List Int := P.take (4 * k) ++ List.replicate (P.length - 4 * k) 0
theorem Dm {P : List Int} {W : Nat} {y x : Nat} (hk : 4 * (W * y + x) + 4 ≤ P.length) : l5 (W : Int) (laid P (W * y + x)) (0 + (x : Int) * 1) (0 + (y : Int) * 1) [P.getD (4 * (W * y + x)) 0, P.getD (4 * (W * y + x) + 1) 0, P.getD (4 * (W * y + x) + 2) 0, P.getD (4 * (W * y + x) + 3) 0] = laid P (W * y + (x + 1)) := by
  have e : (4 * ((0 + (y : Int) * 1) * (W : Int) + (0 + (x : Int) * 1))).toNat = 4 * (W * y + x) := by
    have : 4 * ((0 + (y : Int) * 1) * (W : Int) + (0 + (x : Int) * 1)) = ((4 * (W * y + x) : Nat) : Int) := by
      rw [Int.zero_add, Int.zero_add, Int.mul_one, Int.mul_one, Nat.mul_comm W y]; push_cast; rfl
    rw [this]; rfl
  unfold l5
  rw [e, show W * y + (x + 1) = (W * y + x) + 1 from rfl]
  clear e
  generalize W * y + x = k at hk
  have h1 : (laid P k).take (4 * k) = P.take (4 * k) := by
    unfold laid
    exact List.take_left' (by rw [List.length_take]; omega)
  have h2 : (laid P k).drop (4 * k + 4) = List.replicate (P.length - 4 * (k + 1)) 0 := by
    unfold laid
    rw [List.drop_append, List.drop_of_length_le (by rw [List.length_take]; omega), List.nil_append, List.length_take, List.drop_replicate]
    congr 1
    omega
  rw [h1, h2]
  unfold laid
  congr 1
  have h3 : P.take (4 * (k + 1)) = P.take (4 * k) ++ [P.getD (4 * k) 0] ++ [P.getD (4 * k + 1) 0] ++ [P.getD (4 * k + 2) 0] ++ [P.getD (4 * k + 3) 0] := by
    rw [show 4 * (k + 1) = 4 * k + 1 + 1 + 1 + 1 by omega, ad.kp (by omega), ad.kp (by omega), ad.kp (by omega), ad.kp (by omega)]
  rw [h3]
  simp
theorem Bp {P : List Int} {W H y : Nat} (w h : Int) (plte trns : List Int) (p : Ps) (hp : p.x = 0 ∧ p.y = 0 ∧ p.dx = 1 ∧ p.dy = 1) (hw : w = (W : Int)) (hU : sT P) (hP : P.length = 4 * W * H) (hy : y < H) : ∀ k i, i + k = W → gO ⟨gm w h, plte, trns⟩ p (y : Int) (jf P W y) k i (laid P (W * y + i)) = some (laid P (W * y + W))
  | 0, i, hi => by rw [gO, show i = W by omega]
  | k + 1, i, hi => by
    have hle : 4 * W * (y + 1) ≤ 4 * W * H := Nat.mul_le_mul_left _ hy
    rw [Nat.mul_succ, Nat.mul_assoc] at hle
    rw [gO, JN w h hU hP hy (by omega), MF]
    simp only [hp.1, hp.2.1, hp.2.2.1, hp.2.2.2]
    have e : (gm w h).w = (W : Int) := hw
    rw [e, Dm (by omega)]
    exact Bp w h plte trns p hp hw hU hP hy k (i + 1) (by omega)
theorem yx {P : List Int} {W H : Nat} (w h : Int) (plte trns : List Int) (p : Ps) (hp : p.x = 0 ∧ p.y = 0 ∧ p.dx = 1 ∧ p.dy = 1) (hpw : p.w = (W : Int)) (hw : w = (W : Int)) (hU : sT P) (hP : P.length = 4 * W * H) : ∀ k y above, y + k = H → fz ⟨gm w h, plte, trns⟩ (du P W H) (8 * W) 8 p k y (y * (1 + 8 * W)) above (laid P (W * y)) = some (H * (1 + 8 * W), laid P (W * H))
  | 0, y, above, hy => by rw [fz, show y = H by omega]
  | k + 1, y, above, hy => by
    have ha := GJ hP (show y < H by omega)
    have hb : az (jf P W y) := uM (fun z hz => hU z (List.mem_of_mem_drop (List.mem_of_mem_take hz)))
    rw [fz, ha.1, if_neg (by decide), ha.2, MW hb]
    have hpn : p.w.toNat = W := by rw [hpw]; rfl
    have hr := Bp w h plte trns p hp hw hU hP (show y < H by omega) W 0 (by omega)
    rw [Nat.add_zero] at hr
    rw [hpn, hr]
    simp only
    have e : y * (1 + 8 * W) + 1 + 8 * W = (y + 1) * (1 + 8 * W) := by rw [Nat.succ_mul y (1 + 8 * W)]; omega
    rw [e, show W * y + W = W * (y + 1) from (Nat.mul_succ _ _).symm]
    exact yx w h plte trns p hp hpw hw hU hP k (y + 1) (jf P W y) (by omega)
theorem KH {P : List Int} {W H : Nat} (plte trns : List Int) (hU : sT P) (hP : P.length = 4 * W * H) : gT ⟨gm (W : Int) (H : Int), plte, trns⟩ (du P W H) (whole (W : Int) (H : Int)) 0 (laid P 0) = some P := by
  have e1 : (fh (W : Int) (bitsOf (gm (W : Int) (H : Int)))).toNat = 8 * W := by
    have : bitsOf (gm (W : Int) (H : Int)) = 64 := rfl
    rw [this]; unfold fh; omega
  have e2 : (max 1 (bitsOf (gm (W : Int) (H : Int)) / 8)).toNat = 8 := rfl
  have h := yx (W : Int) (H : Int) plte trns ⟨0, 0, 1, 1, (W : Int), (H : Int)⟩ ⟨rfl, rfl, rfl, rfl⟩ rfl rfl hU hP H 0 [] (by omega)
  rw [Nat.zero_mul, Nat.mul_zero] at h
  have e3 : laid P (W * H) = P := by
    unfold laid
    rw [← Nat.mul_assoc, ← hP, List.take_length, Nat.sub_self]
    simp
  rw [e3] at h
  unfold whole gT
  simp only [e1, e2]
  rw [show ((H : Int)).toNat = H from rfl, h]
  rfl
end Go.aa
namespace Go.aa
open Go.ak
theorem Gf : ev dv := by decide
theorem FU : ev cm := by decide
theorem F7 : ev cD := by decide
theorem Pe : dv ≠ cD := by decide
theorem P6 : cm ≠ cD := by decide
def hB (w h : Int) : List Int := [0, 0, w / 256, w % 256, 0, 0, h / 256, h % 256, 16, 6, 0, 0, 0]
def lH (w h : Int) (z : List Int) : List Ch := [⟨dv, hB w h⟩, ⟨cm, z⟩, ⟨cD, []⟩]
def fR (P : List Int) (W H : Nat) : List Int := cS (lH (W : Int) (H : Int) (cP (du P W H)))
structure Sz (P : List Int) (W H : Nat) : Prop where
  w : 1 ≤ W ∧ W ≤ 256
  h : 1 ≤ H ∧ H ≤ 256
  wh : W * H ≤ 16384
  len : P.length = 4 * W * H
  u : sT P
theorem F0 {W H : Nat} (hw : 1 ≤ W ∧ W ≤ 256) (hh : 1 ≤ H ∧ H ≤ 256) : aO (hB (W : Int) (H : Int)) = gm (W : Int) (H : Int) := by
  unfold aO gm hB
  simp only [aL.cW, List.drop_succ_cons, List.drop_zero, List.getD_cons_zero, List.getD_cons_succ]
  congr 1 <;> first | omega | rfl
theorem Li {W H : Nat} (hw : 1 ≤ W ∧ W ≤ 256) (hh : 1 ≤ H ∧ H ≤ 256) : az (hB (W : Int) (H : Int)) := fun x hx => by
  simp only [hB, List.mem_cons, List.not_mem_nil, or_false] at hx
  rcases hx with rfl | rfl | rfl | rfl | rfl | rfl | rfl | rfl | rfl | rfl | rfl | rfl | rfl <;> omega
theorem LR {W H : Nat} (hw : 1 ≤ W ∧ W ≤ 256) (hh : 1 ≤ H ∧ H ≤ 256) (hwh : W * H ≤ 16384) : bS (W : Int) (H : Int) = 0 := by
  unfold bS
  have : (W : Int) ≤ 16384 / (H : Int) := by
    rw [Int.le_ediv_iff_mul_le (by omega)]
    have h2 : ((W * H : Nat) : Int) ≤ 16384 := by omega
    rw [Int.natCast_mul] at h2
    exact h2
  rw [if_neg (by omega), if_neg (by omega)]
theorem O9 {W H : Nat} (hw : 1 ≤ W ∧ W ≤ 256) (hh : 1 ≤ H ∧ H ≤ 256) (hwh : W * H ≤ 16384) : eY (hB (W : Int) (H : Int)) = 0 := by
  unfold eY
  rw [F0 hw hh]
  have e1 : (gm (W : Int) (H : Int)).w = (W : Int) := rfl
  have e2 : (gm (W : Int) (H : Int)).h = (H : Int) := rfl
  have e3 : deep (gm (W : Int) (H : Int)).ay (gm (W : Int) (H : Int)).dep := show deep 6 16 by decide
  have e4 : (hB (W : Int) (H : Int)).getD 10 0 = 0 := rfl
  have e5 : (hB (W : Int) (H : Int)).getD 11 0 = 0 := rfl
  have e6 : (hB (W : Int) (H : Int)).getD 12 0 = 0 := rfl
  rw [if_neg (by unfold hB; simp), e1, e2, e4, e5, e6, if_neg (by rintro (h | h | h | h | h); exact h e3; omega; omega; omega; omega), LR hw hh hwh, if_pos rfl]
theorem Hi (w h : Int) (z : List Int) : dS (lH w h z) = true := by
  have e : walk (((lH w h z).drop 1).take ((lH w h z).length - 2)) ⟨false, false, false, false⟩ = some ⟨false, false, true, false⟩ := rfl
  unfold dS
  rw [e]
  rfl
theorem Hr (w h : Int) (z : List Int) : o9 (gm w h) (cI (lH w h z) bC) (fI (lH w h z) bC) (cI (lH w h z) bZ) (fI (lH w h z) bZ) := by
  have e1 : fI (lH w h z) bC = false := rfl
  have e2 : fI (lH w h z) bZ = false := rfl
  rw [e1, e2]
  unfold o9
  simp [gm]
theorem DG (w h : Int) (z : List Int) : dr (lH w h z) = z := by
  have : dr (lH w h z) = z ++ [] := rfl
  rw [this, List.append_nil]
theorem ye {P : List Int} {W H : Nat} (s : Sz P W H) : (du P W H).length = H * (1 + 8 * W) := sA s.len H (Nat.le_refl _)
theorem K8 {W H : Nat} (hw : 1 ≤ W ∧ W ≤ 256) : want (gm (W : Int) (H : Int)) = ((H * (1 + 8 * W) : Nat) : Int) := by
  have e : want (gm (W : Int) (H : Int)) = ([if 0 < (W : Int) then (H : Int) * (1 + fh (W : Int) 64) else 0] : List Int).sum := rfl
  have e2 : fh (W : Int) 64 = 8 * (W : Int) := by unfold fh; omega
  rw [e, if_pos (by omega), e2]
  simp
theorem oz {P : List Int} {W H : Nat} (s : Sz P W H) : (du P W H).length ≤ 131328 := by
  have h1 := ye s
  have h2 := s.wh
  have h3 := s.h.2
  have e : H * (1 + 8 * W) = H + 8 * (W * H) := by rw [Nat.mul_add, Nat.mul_one, Nat.mul_comm H (8 * W), Nat.mul_assoc]
  omega
theorem tn {P : List Int} {W H : Nat} (s : Sz P W H) : ∀ c ∈ [(⟨dv, hB (W : Int) (H : Int)⟩ : Ch), ⟨cm, cP (du P W H)⟩], mC c ∧ c.k ≠ cD := fun c hc => by
  have hr := oz s
  have hb := Ky (oX W s.u H) (by omega)
  have hl := pY (B := du P W H) (by omega)
  simp only [List.mem_cons, List.not_mem_nil, or_false] at hc
  rcases hc with rfl | rfl
  · exact ⟨⟨Gf, Li s.w s.h, by simp [hB]⟩, Pe⟩
  · exact ⟨⟨FU, hb, by simp only; omega⟩, P6⟩
theorem ud : mC ⟨cD, []⟩ := ⟨F7, aT.jx, by decide⟩
theorem pE {P : List Int} {W H : Nat} (s : Sz P W H) : (fR P W H).length = 57 + (cP (du P W H)).length := by
  have e : fR P W H = fx ++ (iD ⟨dv, hB (W : Int) (H : Int)⟩ ++ (iD ⟨cm, cP (du P W H)⟩ ++ iD ⟨cD, []⟩)) := by simp [fR, cS, jK, lH]
  rw [e, List.length_append, List.length_append, List.length_append, lN Gf.1, lN FU.1, lN F7.1]
  simp [fx, hB]
  omega
theorem CQ {P : List Int} {W H : Nat} (s : Sz P W H) : cut (fR P W H) = .ok (lH (W : Int) (H : Int) (cP (du P W H))) := by
  have hr := oz s
  have hl := pY (B := du P W H) (by omega)
  have hp := pE s
  exact DQ (l := [⟨dv, hB (W : Int) (H : Int)⟩, ⟨cm, cP (du P W H)⟩]) ud rfl (tn s) (by
    have : (fR P W H).length ≤ 262144 := by omega
    exact this)
theorem C3 {P : List Int} {W H : Nat} (s : Sz P W H) : az (fR P W H) := BH (fun c hc => by
  have hc : c ∈ [(⟨dv, hB (W : Int) (H : Int)⟩ : Ch), ⟨cm, cP (du P W H)⟩] ++ [⟨cD, []⟩] := hc
  rcases List.mem_append.1 hc with h | h
  · exact (tn s c h).1
  · rw [List.mem_singleton.1 h]; exact ud)
theorem BF {P : List Int} {W H : Nat} (s : Sz P W H) : mA (gm (W : Int) (H : Int)) = laid P 0 := by
  have e : (4 * (W : Int) * (H : Int)).toNat = P.length := by
    have : 4 * (W : Int) * (H : Int) = ((4 * W * H : Nat) : Int) := by push_cast; rfl
    rw [this, s.len]; rfl
  unfold mA laid
  simp only [gm, e, Nat.mul_zero, List.take_zero, List.nil_append, Nat.sub_zero]
theorem AI {P : List Int} {W H : Nat} (s : Sz P W H) : ot (fR P W H) (⟨(W : Int), (H : Int), P⟩, 0) := by
  have hr := oz s
  have hrl := ye s
  have hw := K8 (H := H) s.w
  have hd : (((lH (W : Int) (H : Int) (cP (du P W H))).map Ch.d).getD 0 []) = hB (W : Int) (H : Int) := rfl
  unfold ot
  rw [CQ s]
  simp only [hd, F0 s.w s.h, O9 s.w s.h s.wh, DG]
  rw [if_neg (by rw [Hi]; decide), if_neg (fun h => h rfl), if_neg (fun h => h (Hr _ _ _))]
  have hwant : gb (bB (gm (W : Int) (H : Int))) (bitsOf (gm (W : Int) (H : Int))) = (((du P W H).length : Nat) : Int) := by rw [hrl]; exact hw
  rw [hwant]
  refine ⟨(du P W H, 0), Kw (oX W s.u H) (by omega) (Int.le_refl _), ?_⟩
  rw [if_neg (fun h => h rfl), if_neg (Int.lt_irrefl _)]
  have hdr := KH (cI (lH (W : Int) (H : Int) (cP (du P W H))) bC) (cI (lH (W : Int) (H : Int) (cP (du P W H))) bZ) s.u s.len
  have h0 := BF s
  unfold mA at h0
  have hp : bB (gm (W : Int) (H : Int)) = whole (W : Int) (H : Int) := rfl
  rw [hp, h0]
  simp only
  rw [hdr]
  rfl
end Go.aa
namespace Go.aa
open Go.ak
theorem vc {x : Int} (h0 : 0 ≤ x ∧ x < 4294967296) : IntKind.u32.wrap ((BitVec.ofInt IntKind.u32.bits x &&& BitVec.ofInt IntKind.u32.bits 1).toNat : Int) = x % 2 := by
  obtain ⟨a, rfl⟩ : ∃ a : Nat, x = (a : Int) := ⟨x.toNat, by omega⟩
  have e : IntKind.u32.bits = 32 := rfl
  have e1 : BitVec.ofInt 32 1 = BitVec.ofInt 32 ((1 : Nat) : Int) := rfl
  rw [e, e1, BitVec.toNat_and, eF, eF, Nat.mod_eq_of_lt (by omega), Nat.mod_eq_of_lt (by omega), Nat.and_one_is_mod, aL.wrap32 (by omega) (by omega)]
  omega
theorem ma {x r : Int} {n : Nat} {d : Int} (hd : d = (n : Int)) (hn : n ≤ 32) (hr : x / 2 ^ n = r) : x.fdiv (2 ^ (min d.toNat IntKind.u32.bits)) = r := by rw [aL.Ai hd hn, hr]
theorem eB (n : Int) : IntKind.u8.wrap n = n % 256 := rfl
def gL (k : Nat) (x : Int) : Int := ((kM k x.toNat : Nat) : Int)
theorem FD {x : Int} (h : 0 ≤ x) : gL 0 x = x := by unfold gL kM; omega
theorem Fg (x : Int) : gL 8 x = gN x := rfl
theorem Cj {x : Int} (h : 0 ≤ x ∧ x < 4294967296) (k : Nat) : 0 ≤ gL k x ∧ gL k x < 4294967296 := by
  have := zO (x := x.toNat) (by omega) k
  unfold gL; omega
theorem zx {x : Int} {k : Nat} (h : gL k x % 2 = 1) : gL (k + 1) x = eC (gL k x / 2) 3988292384 := by
  have h2 : kM k x.toNat % 2 = 1 := by unfold gL at h; omega
  have e : ((kM k x.toNat : Nat) : Int) / 2 = ((kM k x.toNat / 2 : Nat) : Int) := by omega
  unfold gL eC
  rw [kM, pN, if_pos h2, e, Int.toNat_natCast]
  rfl
theorem xE {x : Int} {k : Nat} (h : ¬ gL k x % 2 = 1) : gL (k + 1) x = gL k x / 2 := by
  have h2 : ¬ kM k x.toNat % 2 = 1 := by unfold gL at h; omega
  unfold gL
  rw [kM, pN, if_neg h2]
  omega
def iz (i : Nat) : List Int := (List.range i).map (fun j => gN (j : Nat)) ++ List.replicate (256 - i) 0
def eW : List Int := iz 256
theorem vK {i : Nat} (h : i ≤ 256) : (iz i).length = 256 := by simp [iz]; omega
theorem JZ : iz 0 = List.replicate 256 0 := rfl
theorem Du {i : Nat} (h : i < 256) : (iz i).set i (gN (i : Nat)) = iz (i + 1) := by
  unfold iz
  rw [List.set_append_right _ _ (by simp), List.length_map, List.length_range, Nat.sub_self, show 256 - i = (256 - (i + 1)) + 1 by omega, List.replicate_succ, List.set_cons_zero, List.range_succ, List.map_append]
  simp
theorem EP {x : Int} (h : 0 ≤ x ∧ x < 256) : eW.getD x.toNat 0 = gN x := by
  obtain ⟨n, rfl⟩ : ∃ n : Nat, x = (n : Int) := ⟨x.toNat, by omega⟩
  have hn : n < 256 := by omega
  have : eW = (List.range 256).map (fun j => gN (j : Nat)) := by unfold eW iz; simp
  rw [this, Int.toNat_natCast, List.getD_eq_getElem?_getD, List.getElem?_map, List.getElem?_range hn]
  rfl
theorem ba {l : List Int} (h : az l) : ∀ x ∈ l, 0 ≤ x ∧ x < 256 := h
theorem H2 : iz 256 = eW := rfl
theorem fN {l : List Int} (h : az l) (i : Nat) : az (l.take i) := fun x hx => h x (List.mem_of_mem_take hx)
theorem GZ : eW.length = 256 := vK (Nat.le_refl _)
theorem JU {a b : Int} (ha : 0 ≤ a ∧ a < 256) (hb : 0 ≤ b ∧ b < 256) : 0 ≤ eC a b ∧ eC a b < 256 := qQ (n := 8) ha hb
theorem Hs {a b : Int} (ha : 0 ≤ a ∧ a < 4294967296) (hb : 0 ≤ b ∧ b < 4294967296) : 0 ≤ eC a b ∧ eC a b < 4294967296 := qQ (n := 32) ha hb
end Go.aa
namespace Go.aa
open Go.ak
theorem Km (c : Int) : (97 ≤ c ∧ c ≤ 122) ∨ (97 ≤ c ∧ ¬ c ≤ 122) ∨ (¬ 97 ≤ c ∧ 65 ≤ c ∧ c ≤ 90) ∨ (¬ 97 ≤ c ∧ 65 ≤ c ∧ ¬ c ≤ 90) ∨ (¬ 97 ≤ c ∧ ¬ 65 ≤ c) := by omega
theorem ua {k : List Int} {i : Nat} (h : ¬ kG (k.getD i 0)) (hi : i < k.length) : ¬ ev k := fun hn => h (by
  rw [List.getD_eq_getElem?_getD, List.getElem?_eq_getElem hi]
  exact hn.2 _ (List.getElem_mem hi))
theorem y9 {k : List Int} (h : ∀ j, j < k.length → kG (k.getD j 0)) : ev k ↔ k.length = 4 := by
  constructor
  · exact fun h => h.1
  · refine fun h4 => ⟨h4, fun c hc => ?_⟩
    obtain ⟨j, hj, rfl⟩ := List.getElem_of_mem hc
    have := h j hj
    rwa [List.getD_eq_getElem?_getD, List.getElem?_eq_getElem hj] at this
theorem Mz {k : List Int} {t : Bool} (ht : t = decide (ev k)) (h : ∀ j, j < k.length → kG (k.getD j 0)) : decide ((k.length : Int) = 4) = t := by
  rw [ht]
  have := y9 h
  by_cases h4 : k.length = 4
  · rw [decide_eq_true (this.2 h4), decide_eq_true (by omega)]
  · rw [decide_eq_false (fun hh => h4 (this.1 hh)), decide_eq_false (by omega)]
def ac (B : List Int) : Nat → Int
  | 0 => 0
  | i + 1 => ac B i * 256 + B.getD i 0
theorem ON (B : List Int) : ac B 4 = aL.cW B := by simp only [ac, aL.cW]; omega
theorem NY {B : List Int} (hB : az B) {i : Nat} (hi : i < 4) : 0 ≤ ac B i ∧ ac B i < 16777216 := by
  have h0 := hB.get 0; have h1 := hB.get 1; have h2 := hB.get 2
  have : i = 0 ∨ i = 1 ∨ i = 2 ∨ i = 3 := by omega
  rcases this with rfl | rfl | rfl | rfl <;> simp only [ac] <;> omega
theorem Cx {B : List Int} {n i : Nat} (h : i < n) : (B.take n).getD i 0 = B.getD i 0 := by
  rw [List.getD_eq_getElem?_getD, List.getD_eq_getElem?_getD, List.getElem?_take_of_lt h]
end Go.aa
namespace Go.aa
open Go.ak
theorem xd {L : List Int} (hL : az L) : (L.length < 12 ∧ first L = .error 2) ∨
    (∃ n : Nat, 12 ≤ L.length ∧ aL.cW L = (n : Int) ∧ n < 4294967296 ∧ 2147483647 < n ∧ first L = .error 4) ∨
    (∃ n : Nat, 12 ≤ L.length ∧ aL.cW L = (n : Int) ∧ n ≤ 2147483647 ∧ ¬ ev ((L.drop 4).take 4) ∧ first L = .error 4) ∨
    (∃ n : Nat, 12 ≤ L.length ∧ aL.cW L = (n : Int) ∧ n ≤ 2147483647 ∧ ev ((L.drop 4).take 4) ∧ L.length < 12 + n ∧ first L = .error 2) ∨
    (∃ n : Nat, 12 ≤ L.length ∧ aL.cW L = (n : Int) ∧ n ≤ 2147483647 ∧ ev ((L.drop 4).take 4) ∧ 12 + n ≤ L.length ∧ aL.cW (L.drop (8 + n)) = il ((L.drop 4).take 4) ((L.drop 8).take n) ∧ first L = .ok ⟨(L.drop 4).take 4, (L.drop 8).take n⟩) ∨
    (∃ n : Nat, 12 ≤ L.length ∧ aL.cW L = (n : Int) ∧ n ≤ 2147483647 ∧ ev ((L.drop 4).take 4) ∧ 12 + n ≤ L.length ∧ ¬ aL.cW (L.drop (8 + n)) = il ((L.drop 4).take 4) ((L.drop 8).take n) ∧ first L = .error 5) := by
  rcases Lq hL with h | ⟨n, h12, hn, hb, ⟨h1, h2⟩ | ⟨h1, h2, h3⟩ | ⟨h1, h2, h3, h4⟩ | ⟨h1, h2, h3, h4, h5⟩ | ⟨h1, h2, h3, h4, h5⟩⟩
  · exact .inl h
  · exact .inr (.inl ⟨n, h12, hn, hb, h1, h2⟩)
  · exact .inr (.inr (.inl ⟨n, h12, hn, h1, h2, h3⟩))
  · exact .inr (.inr (.inr (.inl ⟨n, h12, hn, h1, h2, h3, h4⟩)))
  · exact .inr (.inr (.inr (.inr (.inl ⟨n, h12, hn, h5, h2, h1, h3, h4⟩))))
  · exact .inr (.inr (.inr (.inr (.inr ⟨n, h12, hn, h5, h2, h1, h3, h4⟩))))
theorem ej {l : List Int} (h : az l) (i : Nat) : az (l.drop i) := fun x hx => h x (List.mem_of_mem_drop hx)
theorem iB {l : List Int} {i n : Nat} (h : i + n ≤ l.length) : ((l.drop i).take n).length = n := by rw [List.length_take, List.length_drop]; omega
end Go.aa
namespace Go.aa
open Go.ak
theorem Cg {L : List Int} {x : Ch} (hL : az L) (h : first L = .ok x) : 12 + x.d.length ≤ L.length ∧ ev x.k ∧ az x.d := by
  rcases xd hL with ⟨_, h1⟩ | ⟨n, _, _, _, _, h1⟩ | ⟨n, _, _, _, _, h1⟩ | ⟨n, _, _, _, _, _, h1⟩ | ⟨n, _, _, _, h2, h3, _, h1⟩ | ⟨n, _, _, _, _, _, _, h1⟩ <;> rw [h1] at h <;> cases h
  refine ⟨?_, h2, fN (ej hL 8) n⟩
  have := iB (l := L) (i := 8) (n := n) (by omega)
  show 12 + ((L.drop 8).take n).length ≤ _
  omega
theorem D0 {L : List Int} {e : Int} (hL : az L) (h : first L = .error e) : e ≠ 0 := by
  rcases xd hL with ⟨_, h1⟩ | ⟨n, _, _, _, _, h1⟩ | ⟨n, _, _, _, _, h1⟩ | ⟨n, _, _, _, _, _, h1⟩ | ⟨n, _, _, _, h2, h3, _, h1⟩ | ⟨n, _, _, _, _, _, _, h1⟩ <;> rw [h1] at h <;> cases h <;> decide
theorem OT {Z : List Int} (hZ : az Z) : (∃ e, first Z = .error e ∧ e ≠ 0) ∨ (∃ x, first Z = .ok x ∧ 12 + x.d.length ≤ Z.length ∧ ev x.k ∧ az x.d ∧ x.k ≠ cD) ∨
    (∃ x, first Z = .ok x ∧ 12 + x.d.length = Z.length ∧ ev x.k ∧ az x.d ∧ x.k = cD) ∨ (∃ x, first Z = .ok x ∧ 12 + x.d.length < Z.length ∧ ev x.k ∧ az x.d ∧ x.k = cD) := by
  cases h : first Z with
  | error e => exact .inl ⟨e, rfl, D0 hZ h⟩
  | ok x =>
    obtain ⟨h1, h2, h3⟩ := Cg hZ h
    by_cases hk : x.k = cD
    · rcases Nat.lt_or_ge (12 + x.d.length) Z.length with h4 | h4
      · exact .inr (.inr (.inr ⟨x, rfl, h4, h2, h3, hk⟩))
      · exact .inr (.inr (.inl ⟨x, rfl, by omega, h2, h3, hk⟩))
    · exact .inr (.inl ⟨x, rfl, h1, h2, h3, hk⟩)
theorem L4 {f : Nat} {Z : List Int} {l : List Ch} {e : Int} (h : first Z = .error e) : gB (f + 1) Z l = .error e := by rw [gB, h]
theorem Kh {f : Nat} {Z : List Int} {l : List Ch} {x : Ch} (h : first Z = .ok x) (hk : x.k ≠ cD) : gB (f + 1) Z l = gB f (Z.drop (12 + x.d.length)) (l ++ [x]) := by
  rw [gB, h]; simp only; rw [if_neg hk]
theorem KY {f : Nat} {Z : List Int} {l : List Ch} {x : Ch} (h : first Z = .ok x) (hk : x.k = cD) (hl : 12 + x.d.length = Z.length) : gB (f + 1) Z l = .ok (l ++ [x]) := by
  rw [gB, h]; simp only; rw [if_pos hk, if_pos (by omega)]
theorem Kd {f : Nat} {Z : List Int} {l : List Ch} {x : Ch} (h : first Z = .ok x) (hk : x.k = cD) (hl : 12 + x.d.length < Z.length) : gB (f + 1) Z l = .error 4 := by
  rw [gB, h]; simp only; rw [if_pos hk, if_neg (by omega)]
theorem Jf (B : List Int) : (262144 < B.length ∧ cut B = .error 3) ∨ (B.length < 8 ∧ cut B = .error 2) ∨ (B.length ≤ 262144 ∧ 8 ≤ B.length ∧ B.take 8 ≠ fx ∧ cut B = .error 4) ∨ (B.length ≤ 262144 ∧ 8 ≤ B.length ∧ B.take 8 = fx ∧ gB (B.length + 1) (B.drop 8) [] = cut B) := by
  rcases Nat.lt_or_ge 262144 B.length with h | h
  · exact .inl ⟨h, by unfold cut; rw [if_pos h]⟩
  · rcases Nat.lt_or_ge B.length 8 with h2 | h2
    · exact .inr (.inl ⟨h2, by unfold cut; rw [if_neg (by omega), if_pos h2]⟩)
    · by_cases h3 : B.take 8 = fx
      · exact .inr (.inr (.inr ⟨h, h2, h3, by unfold cut; rw [if_neg (by omega), if_neg (by omega), if_pos h3]⟩))
      · exact .inr (.inr (.inl ⟨h, h2, h3, by unfold cut; rw [if_neg (by omega), if_neg (by omega), if_neg h3]⟩))
theorem wo : fx.length = 8 := rfl
theorem se : az fx := by unfold az; decide
theorem xK : az cD := by unfold az; decide
end Go.aa
namespace Go.aa
open Go.ak
theorem Pa {p t i o : Bool} {c : Ch} (h : c.k = cm) : da ⟨p, t, i, o⟩ c = (⟨p, t, true, o⟩, !o) := by unfold da; rw [if_pos h]
theorem Nq {p i o : Bool} {c : Ch} (h1 : c.k ≠ cm) (h2 : c.k = bC) : da ⟨p, true, i, o⟩ c = (⟨p, true, i, i⟩, false) := by unfold da; rw [if_neg h1, if_pos h2]; rfl
theorem MO {p i o : Bool} {c : Ch} (h1 : c.k ≠ cm) (h2 : c.k = bC) : da ⟨p, false, i, o⟩ c = (⟨true, false, i, i⟩, !p && !i) := by unfold da; rw [if_neg h1, if_pos h2]; rfl
theorem OL {p t i o : Bool} {c : Ch} (h1 : c.k ≠ cm) (h2 : c.k ≠ bC) (h3 : c.k = bZ) : da ⟨p, t, i, o⟩ c = (⟨p, true, i, i⟩, !t && !i) := by unfold da; rw [if_neg h1, if_neg h2, if_pos h3]
theorem Es {p t i o : Bool} {c : Ch} {r : Bool} (h1 : c.k ≠ cm) (h2 : c.k ≠ bC) (h3 : c.k ≠ bZ) (hr : r = (decide (ev c.k) && !decide (gK c.k))) : da ⟨p, t, i, o⟩ c = (⟨p, t, i, i⟩, r) := by unfold da; rw [if_neg h1, if_neg h2, if_neg h3, hr]
theorem Nu (k : List Int) (t : Bool) : k = cm ∨ (k ≠ cm ∧ k = bC ∧ t = true) ∨ (k ≠ cm ∧ k = bC ∧ t = false) ∨ (k ≠ cm ∧ k ≠ bC ∧ k = bZ) ∨ (k ≠ cm ∧ k ≠ bC ∧ k ≠ bZ ∧ ¬ ev k) ∨ (k ≠ cm ∧ k ≠ bC ∧ k ≠ bZ ∧ ev k ∧ gK k) ∨ (k ≠ cm ∧ k ≠ bC ∧ k ≠ bZ ∧ ev k ∧ ¬ gK k) := by
  by_cases h1 : k = cm
  · exact .inl h1
  · by_cases h2 : k = bC
    · cases t
      · exact .inr (.inr (.inl ⟨h1, h2, rfl⟩))
      · exact .inr (.inl ⟨h1, h2, rfl⟩)
    · by_cases h3 : k = bZ
      · exact .inr (.inr (.inr (.inl ⟨h1, h2, h3⟩)))
      · by_cases h4 : ev k
        · by_cases h5 : gK k
          · exact .inr (.inr (.inr (.inr (.inr (.inl ⟨h1, h2, h3, h4, h5⟩)))))
          · exact .inr (.inr (.inr (.inr (.inr (.inr ⟨h1, h2, h3, h4, h5⟩)))))
        · exact .inr (.inr (.inr (.inr (.inl ⟨h1, h2, h3, h4⟩))))
theorem zi {k : List Int} (h : ev k) : k.length = 4 := h.1
theorem Jq {k : List Int} {t : Bool} (ht : t = decide (gK k)) (h : ev k) : t = decide (k.getD 0 0 ≤ 90) := by
  rw [ht]
  by_cases h9 : k.getD 0 0 ≤ 90
  · exact (decide_eq_true (show gK k from ⟨h, h9⟩)).trans (decide_eq_true h9).symm
  · exact (decide_eq_false (fun hh : gK k => h9 hh.2)).trans (decide_eq_false h9).symm
theorem Ks {k : List Int} {t : Bool} (ht : t = decide (gK k)) (h : ¬ ev k) : t = false := ht.trans (decide_eq_false (fun hh => h hh.1))
theorem Pg {k : List Int} (h : ¬ ev k) : false = (decide (ev k) && !decide (gK k)) := by rw [decide_eq_false h]; rfl
theorem PR {k : List Int} (h : gK k) : false = (decide (ev k) && !decide (gK k)) := by rw [decide_eq_true h]; simp
theorem Qa {k : List Int} (h : ev k) (h2 : ¬ gK k) : true = (decide (ev k) && !decide (gK k)) := by rw [decide_eq_true h, decide_eq_false h2]; rfl
theorem kv : az cm := by unfold az; decide
theorem jY : az bC := by unfold az; decide
theorem lS : az bZ := by unfold az; decide
theorem Iv : az dv := by unfold az; decide
def wD : Wk := ⟨false, false, false, false⟩
def bA (l : List Ch) : List Ch := (l.drop 1).take (l.length - 2)
def wid (o : Option Wk) : Bool := match o with | some w => w.dr | none => false
theorem Pt (l : List Ch) : (l.length < 3 ∧ dS l = false) ∨ (3 ≤ l.length ∧ ((l.map Ch.k).getD 0 [] ≠ dv) ∧ dS l = false) ∨ (3 ≤ l.length ∧ (l.map Ch.k).getD 0 [] = dv ∧ ¬ ((l.map (·.d.length)).getD 0 0 = 13) ∧ dS l = false) ∨
    (3 ≤ l.length ∧ (l.map Ch.k).getD 0 [] = dv ∧ (l.map (·.d.length)).getD 0 0 = 13 ∧ (l.map Ch.k).getD (l.length - 1) [] ≠ cD ∧ dS l = false) ∨
    (3 ≤ l.length ∧ (l.map Ch.k).getD 0 [] = dv ∧ (l.map (·.d.length)).getD 0 0 = 13 ∧ (l.map Ch.k).getD (l.length - 1) [] = cD ∧ ¬ ((l.map (·.d.length)).getD (l.length - 1) 0 = 0) ∧ dS l = false) ∨
    (3 ≤ l.length ∧ (l.map Ch.k).getD 0 [] = dv ∧ (l.map (·.d.length)).getD 0 0 = 13 ∧ (l.map Ch.k).getD (l.length - 1) [] = cD ∧ (l.map (·.d.length)).getD (l.length - 1) 0 = 0 ∧ dS l = wid (walk (bA l) wD)) := by
  by_cases h1 : 3 ≤ l.length
  · by_cases h2 : (l.map Ch.k).getD 0 [] = dv
    · by_cases h3 : (l.map (·.d.length)).getD 0 0 = 13
      · by_cases h4 : (l.map Ch.k).getD (l.length - 1) [] = cD
        · by_cases h5 : (l.map (·.d.length)).getD (l.length - 1) 0 = 0
          · refine .inr (.inr (.inr (.inr (.inr ⟨h1, h2, h3, h4, h5, ?_⟩))))
            unfold dS
            rw [h2, h3, h4, h5, decide_eq_true h1, show (dv == dv) = true by decide, show (cD == cD) = true by decide]
            rfl
          · refine .inr (.inr (.inr (.inr (.inl ⟨h1, h2, h3, h4, h5, ?_⟩))))
            unfold dS
            rw [beq_eq_false_iff_ne.2 h5]
            simp
        · refine .inr (.inr (.inr (.inl ⟨h1, h2, h3, h4, ?_⟩)))
          unfold dS
          rw [beq_eq_false_iff_ne.2 h4]
          simp
      · refine .inr (.inr (.inl ⟨h1, h2, h3, ?_⟩))
        unfold dS
        rw [beq_eq_false_iff_ne.2 h3]
        simp
    · refine .inr (.inl ⟨h1, h2, ?_⟩)
      unfold dS
      rw [beq_eq_false_iff_ne.2 h2]
      simp
  · refine .inl ⟨by omega, ?_⟩
    unfold dS
    rw [decide_eq_false h1]
    simp
theorem Kx {l : List Ch} {i : Nat} {w : Wk} (c : Ch) (hc : l[i]? = some c) : walk (l.drop i) w = (if (da w c).2 then walk (l.drop (i + 1)) (da w c).1 else none) := by
  have hlt := (List.getElem?_eq_some_iff.1 hc).1
  rw [List.drop_eq_getElem_cons hlt, walk]
  have : l[i] = c := by rw [List.getElem?_eq_getElem hlt] at hc; exact Option.some.inj hc
  rw [this]
theorem CY {l : List Ch} {i : Nat} {w : Wk} (h : l.length ≤ i) : walk (l.drop i) w = some w := by rw [List.drop_of_length_le h, walk]
end Go.aa
namespace Go.aa
open Go.ak
def Dx (l : List Ch) : Int := if dS l then 0 else 4
theorem qI {l : List Ch} (h : dS l = true) : Dx l = 0 := if_pos h
theorem mh {l : List Ch} (h : dS l = false) : Dx l = 4 := if_neg (by rw [h]; decide)
theorem Lc (b : Bool) : b = true ∨ b = false := by cases b <;> simp
theorem ym {l : List Ch} (h : 3 ≤ l.length) : (bA l).length = l.length - 2 := by unfold bA; rw [List.length_take, List.length_drop]; omega
theorem Hz {l : List Ch} {i : Nat} (h : i < l.length - 2) : (bA l)[i]? = l[1 + i]? := by unfold bA; rw [List.getElem?_take_of_lt h, List.getElem?_drop]
theorem BX {l : List Ch} (h : dS l = wid (walk (bA l) wD)) {w : Wk} (hw : walk (bA l) wD = some w) : dS l = w.dr := by rw [h, hw]; rfl
theorem JC {l : List Ch} (h : dS l = wid (walk (bA l) wD)) (hw : walk (bA l) wD = none) : dS l = false := by rw [h, hw]; rfl
end Go.aa
namespace Go.aa
open Go.ak
def nu (c : Int) : Int := IntKind.u8.wrap ((BitVec.ofInt IntKind.u8.bits c ||| BitVec.ofInt IntKind.u8.bits 32).toNat : Int)
theorem Hn : ∀ k : Fin 256, (decide (97 ≤ nu ((k.val : Nat) : Int) ∧ nu ((k.val : Nat) : Int) ≤ 122) == decide (kG ((k.val : Nat) : Int))) = true := by decide +kernel
theorem G1 {c : Int} (h : 0 ≤ c ∧ c < 256) : (97 ≤ nu c ∧ nu c ≤ 122) ↔ kG c := by
  obtain ⟨k, rfl⟩ := aL.sg h
  have := Hn k
  rw [beq_iff_eq] at this
  by_cases h1 : kG ((k.val : Nat) : Int)
  · rw [decide_eq_true h1] at this; exact ⟨fun _ => h1, fun _ => of_decide_eq_true this⟩
  · rw [decide_eq_false h1] at this; exact ⟨fun hh => absurd hh (of_decide_eq_false this), fun hh => absurd hh h1⟩
theorem o3 {c : Int} (h : 0 ≤ c ∧ c < 256) : (nu c < 97 ∧ ¬ kG c) ∨ (¬ nu c < 97 ∧ 122 < nu c ∧ ¬ kG c) ∨ (¬ nu c < 97 ∧ ¬ 122 < nu c ∧ kG c) := by
  have := G1 h
  rcases Int.lt_or_le (nu c) 97 with h1 | h1
  · exact .inl ⟨h1, fun hh => by have := this.2 hh; omega⟩
  · rcases Int.lt_or_le 122 (nu c) with h2 | h2
    · exact .inr (.inl ⟨by omega, h2, fun hh => by have := this.2 hh; omega⟩)
    · exact .inr (.inr ⟨by omega, by omega, this.1 ⟨h1, h2⟩⟩)
theorem NB {k : List Int} (h : ¬ k.length = 4) : ¬ ev k := fun hn => h hn.1
end Go.aa
namespace Go.aa
open Go.ak
variable {n i : Nat} {prev : List Int} {c : Ch} {s : Od}
end Go.aa
namespace Go.aa
open Go.ak Go.Sl
theorem Kk {a b A B : Int} (ha : 0 ≤ a ∧ a ≤ A) (hb : 0 ≤ b ∧ b ≤ B) : 0 ≤ a * b ∧ a * b ≤ A * B := ⟨Int.mul_nonneg ha.1 hb.1, Int.mul_le_mul ha.2 hb.2 hb.1 (by omega)⟩
theorem vl (w h : Int) : (w < 1 ∧ bS w h = 1) ∨ (¬ w < 1 ∧ h < 1 ∧ bS w h = 1) ∨ (¬ w < 1 ∧ ¬ h < 1 ∧ 256 < w ∧ bS w h = 6) ∨ (¬ w < 1 ∧ ¬ h < 1 ∧ ¬ 256 < w ∧ 256 < h ∧ bS w h = 6) ∨ (¬ w < 1 ∧ ¬ h < 1 ∧ ¬ 256 < w ∧ ¬ 256 < h ∧ 16384 / h < w ∧ bS w h = 6) ∨ (¬ w < 1 ∧ ¬ h < 1 ∧ ¬ 256 < w ∧ ¬ 256 < h ∧ ¬ 16384 / h < w ∧ bS w h = 0) := by
  unfold bS
  by_cases h1 : w < 1
  · exact .inl ⟨h1, if_pos (.inl h1)⟩
  by_cases h2 : h < 1
  · exact .inr (.inl ⟨h1, h2, if_pos (.inr h2)⟩)
  rw [if_neg (by omega)]
  by_cases h3 : 256 < w
  · exact .inr (.inr (.inl ⟨h1, h2, h3, if_pos (.inl h3)⟩))
  by_cases h4 : 256 < h
  · exact .inr (.inr (.inr (.inl ⟨h1, h2, h3, h4, if_pos (.inr (.inl h4))⟩)))
  by_cases h5 : 16384 / h < w
  · exact .inr (.inr (.inr (.inr (.inl ⟨h1, h2, h3, h4, h5, if_pos (.inr (.inr h5))⟩))))
  · exact .inr (.inr (.inr (.inr (.inr ⟨h1, h2, h3, h4, h5, if_neg (by rintro (h | h | h); exact h3 h; exact h4 h; exact h5 h)⟩))))
theorem kC {w h : Int} (hs : bS w h = 0) : 1 ≤ w ∧ w ≤ 256 ∧ 1 ≤ h ∧ h ≤ 256 ∧ 1 ≤ w * h ∧ w * h ≤ 16384 := by
  rcases vl w h with h | h | h | h | h | ⟨h1, h2, h3, h4, h5, _⟩ <;> try omega
  have hm : w * h ≤ 16384 / h * h := Int.mul_le_mul_of_nonneg_right (by omega) (by omega)
  have hd : 16384 / h * h ≤ 16384 := Int.ediv_mul_le _ (by omega)
  have hp : 0 < w * h := Int.mul_pos (by omega) (by omega)
  omega
theorem pF {w h : Int} (hs : bS w h = 0) : 4 ≤ 4 * w * h ∧ 4 * w * h ≤ 65536 := by
  have := kC hs
  rw [Int.mul_assoc]; omega
theorem sL {h : Int} (h1 : 1 ≤ h) : IntKind.i64.wrap ((16384 : Int).tdiv h) = 16384 / h := by
  rw [Int.tdiv_eq_ediv_of_nonneg (by decide)]
  have := Int.ediv_nonneg (a := 16384) (b := h) (by decide) (by omega)
  have h2 : 16384 / h ≤ 16384 := Int.ediv_le_self _ (by decide)
  exact gU (by omega) (by omega)
def j6 (p : Ps) : Prop := 0 ≤ p.x ∧ p.x ≤ 8 ∧ 0 ≤ p.y ∧ p.y ≤ 8 ∧ (p.dx = 1 ∨ p.dx = 2 ∨ p.dx = 4 ∨ p.dx = 8) ∧ (p.dy = 1 ∨ p.dy = 2 ∨ p.dy = 4 ∨ p.dy = 8) ∧ 0 ≤ p.w ∧ p.w ≤ 256 ∧ 0 ≤ p.h ∧ p.h ≤ 256
theorem nS {w bits : Int} (hw : 0 ≤ w ∧ w ≤ 256) (hb : 0 ≤ bits ∧ bits ≤ 64) : 0 ≤ w * bits ∧ w * bits ≤ 16384 ∧ 0 ≤ fh w bits ∧ fh w bits ≤ 2048 := by
  have := Kk hw hb
  unfold fh; omega
def sO (bits : Int) (p : Ps) : Int := if 0 < p.w then p.h * (1 + fh p.w bits) else 0
theorem AD {p : Ps} {bits : Int} (hp : j6 p) (hb : 0 ≤ bits ∧ bits ≤ 64) : 0 ≤ sO bits p ∧ sO bits p ≤ 524544 ∧ 0 ≤ p.h * (1 + fh p.w bits) ∧ p.h * (1 + fh p.w bits) ≤ 524544 := by
  obtain ⟨_, _, _, _, _, _, h1, h2, h3, h4⟩ := hp
  have hr := nS (w := p.w) ⟨h1, h2⟩ hb
  have := Kk (a := p.h) (b := 1 + fh p.w bits) ⟨h3, h4⟩ (B := 2049) (by omega)
  unfold sO
  split <;> omega
theorem pf (l : List Ps) (bits : Int) : gb l bits = (l.map (sO bits)).sum := rfl
theorem zv : ∀ (a b : List Int), (a ++ b).sum = a.sum + b.sum
  | [], b => by simp
  | x :: a, b => by simp [zv a b]; omega
theorem rI {l : List Ps} {bits : Int} {i : Nat} (h : i < l.length) : gb (l.take (i + 1)) bits = gb (l.take i) bits + sO bits (l.getD i ⟨0, 0, 0, 0, 0, 0⟩) := by
  rw [pf, pf, List.take_succ_eq_append_getElem h, List.map_append, zv, List.getD_eq_getElem?_getD, List.getElem?_eq_getElem h]
  simp
theorem u0 {l : List Ps} {bits : Int} (hb : 0 ≤ bits ∧ bits ≤ 64) (hl : ∀ p ∈ l, j6 p) : 0 ≤ gb l bits ∧ gb l bits ≤ 524544 * l.length := by
  induction l with
  | nil => simp [gb]
  | cons p l ih =>
    have h1 := AD (hl p (by simp)) hb
    have h2 := ih (fun q hq => hl q (by simp [hq]))
    rw [pf] at h2 ⊢
    simp only [List.map_cons, List.sum_cons, List.length_cons]
    omega
theorem NZ {p : Ps} {bits : Int} (h : 0 < p.w) : sO bits p = p.h * (1 + fh p.w bits) := if_pos h
theorem MG {p : Ps} {bits : Int} (h : ¬ 0 < p.w) : sO bits p = 0 := if_neg h
theorem A6 {x y dx dy w h : Int} (hx : 0 ≤ x ∧ x ≤ 8) (hy : 0 ≤ y ∧ y ≤ 8) (hdx : dx = 1 ∨ dx = 2 ∨ dx = 4 ∨ dx = 8) (hdy : dy = 1 ∨ dy = 2 ∨ dy = 4 ∨ dy = 8) (hw : 0 ≤ w ∧ w ≤ 256) (hh : 0 ≤ h ∧ h ≤ 256) : j6 (tx x y dx dy w h) := by
  have a := zp (frm := x) (e := w) hdx
  have b := zp (frm := y) (e := h) hdy
  have c := zt (frm := x) (e := w) hx.1 hw.1 hdx
  have d := zt (frm := y) (e := h) hy.1 hh.1 hdy
  exact ⟨hx.1, hx.2, hy.1, hy.2, hdx, hdy, a, Int.le_trans c hw.2, b, Int.le_trans d hh.2⟩
theorem G2 {w h : Int} (hw : 0 ≤ w ∧ w ≤ 256) (hh : 0 ≤ h ∧ h ≤ 256) : ∀ p ∈ jc w h, j6 p := by
  intro p hp
  simp only [jc, List.mem_cons, List.not_mem_nil, or_false] at hp
  rcases hp with rfl | rfl | rfl | rfl | rfl | rfl | rfl <;> exact A6 (by decide) (by decide) (by decide) (by decide) hw hh
theorem Ef (w h : Int) : (jc w h).length = 7 := rfl
theorem Bq {w h : Int} (hw : 0 ≤ w ∧ w ≤ 256) (hh : 0 ≤ h ∧ h ≤ 256) : (∀ p ∈ gq w h, j6 p) ∧ (gq w h).length ≤ 7 := ⟨fun p hp => G2 hw hh p (List.mem_filter.1 hp).1, List.length_filter_le _ _⟩
theorem xo {w h : Int} (hw : 0 ≤ w ∧ w ≤ 256) (hh : 0 ≤ h ∧ h ≤ 256) : (∀ p ∈ whole w h, j6 p) ∧ (whole w h).length ≤ 7 := ⟨fun p hp => by
  simp only [whole, List.mem_cons, List.not_mem_nil, or_false] at hp
  subst hp
  exact ⟨Int.le_refl _, (by decide : (0:Int) ≤ 8), Int.le_refl _, (by decide : (0:Int) ≤ 8), .inl rfl, .inl rfl, hw.1, hw.2, hh.1, hh.2⟩, by simp [whole]⟩
def pK (p : Ps) : Bool := decide (0 < p.w) && decide (0 < p.h)
def jF (w h : Int) (i : Nat) : List Ps := ((jc w h).take i).filter pK
theorem IM (w h : Int) : jF w h 7 = gq w h := rfl
theorem Co (w h : Int) : jF w h 0 = [] := rfl
theorem E9 (w h : Int) (i : Nat) : (jF w h i).length ≤ i := by
  have h1 := List.length_filter_le pK ((jc w h).take i)
  have h2 : ((jc w h).take i).length ≤ i := by rw [List.length_take]; omega
  exact Nat.le_trans h1 h2
theorem Bz {w h : Int} {i : Nat} (hi : i < 7) : jF w h (i + 1) = jF w h i ++ (if pK ((jc w h).getD i ⟨0, 0, 0, 0, 0, 0⟩) then [(jc w h).getD i ⟨0, 0, 0, 0, 0, 0⟩] else []) := by
  unfold jF
  rw [List.take_succ_eq_append_getElem (show i < (jc w h).length from hi), List.filter_append, List.getD_eq_getElem?_getD, List.getElem?_eq_getElem (show i < (jc w h).length from hi), Option.getD_some]
  congr 1
  simp only [List.filter]
  split <;> simp_all
theorem I4 (p : Ps) : (¬ 0 < p.w ∧ pK p = false) ∨ (0 < p.w ∧ ¬ 0 < p.h ∧ pK p = false) ∨ (0 < p.w ∧ 0 < p.h ∧ pK p = true) := by
  unfold pK
  by_cases h1 : 0 < p.w
  · by_cases h2 : 0 < p.h
    · exact .inr (.inr ⟨h1, h2, by simp [h1, h2]⟩)
    · exact .inr (.inl ⟨h1, h2, by simp [h2]⟩)
  · exact .inl ⟨h1, by simp [h1]⟩
theorem Cn {w h : Int} {i : Nat} (hi : i < 7) {p : Ps} (hp : (jc w h).getD i ⟨0, 0, 0, 0, 0, 0⟩ = p) (ht : pK p = true) : jF w h i ++ [p] = jF w h (i + 1) := by rw [Bz hi, hp, if_pos ht]
theorem CS {w h : Int} {i : Nat} (hi : i < 7) {p : Ps} (hp : (jc w h).getD i ⟨0, 0, 0, 0, 0, 0⟩ = p) (ht : pK p = false) : jF w h i = jF w h (i + 1) := by rw [Bz hi, hp, if_neg (by rw [ht]; decide), List.append_nil]
theorem Ih {l : List Ps} (h : ∀ p ∈ l, j6 p) {i : Nat} (hi : i < l.length) : j6 (l.getD i ⟨0, 0, 0, 0, 0, 0⟩) := by
  rw [List.getD_eq_getElem?_getD, List.getElem?_eq_getElem hi]; exact h _ (List.getElem_mem hi)
theorem Nv {step e : Int} (hs : step = 1 ∨ step = 2 ∨ step = 4 ∨ step = 8) (frm : Int) (h : e ≤ frm) : many frm step e = 0 := if_pos h
theorem FZ {frm step e : Int} (h : ¬ e ≤ frm) : many frm step e = (e - frm + step - 1) / step := if_neg h
theorem many1 {e : Int} (h : 1 ≤ e) : many 0 1 e = e := by rw [FZ (by omega)]; omega
end Go.aa
namespace Go.aa
open Go.ak
def QW : List Ps := [⟨0, 0, 8, 8, 0, 0⟩, ⟨4, 0, 8, 8, 0, 0⟩, ⟨0, 4, 4, 8, 0, 0⟩, ⟨2, 0, 4, 4, 0, 0⟩, ⟨0, 2, 2, 4, 0, 0⟩, ⟨1, 0, 2, 2, 0, 0⟩, ⟨0, 1, 1, 2, 0, 0⟩]
theorem pM (c : Int) : (c = 0 ∧ parts c = 1) ∨ (c ≠ 0 ∧ c = 3 ∧ parts c = 1) ∨ (c ≠ 0 ∧ c ≠ 3 ∧ c = 2 ∧ parts c = 3) ∨ (c ≠ 0 ∧ c ≠ 3 ∧ c ≠ 2 ∧ c = 4 ∧ parts c = 2) ∨ (c ≠ 0 ∧ c ≠ 3 ∧ c ≠ 2 ∧ c ≠ 4 ∧ c = 6 ∧ parts c = 4) ∨ (c ≠ 0 ∧ c ≠ 3 ∧ c ≠ 2 ∧ c ≠ 4 ∧ c ≠ 6 ∧ parts c = 0) := by
  unfold parts
  by_cases h0 : c = 0
  · exact .inl ⟨h0, by simp [h0]⟩
  by_cases h3 : c = 3
  · exact .inr (.inl ⟨h0, h3, by simp [h3]⟩)
  by_cases h2 : c = 2
  · exact .inr (.inr (.inl ⟨h0, h3, h2, by simp [h2]⟩))
  by_cases h4 : c = 4
  · exact .inr (.inr (.inr (.inl ⟨h0, h3, h2, h4, by simp [h4]⟩)))
  by_cases h6 : c = 6
  · exact .inr (.inr (.inr (.inr (.inl ⟨h0, h3, h2, h4, h6, by simp [h6]⟩))))
  · exact .inr (.inr (.inr (.inr (.inr ⟨h0, h3, h2, h4, h6, by simp [h0, h3, h2, h4, h6]⟩))))
theorem Nx (c d : Int) : (c = 0 ∧ decide (deep c d) = decide (d ∈ ([1, 2, 4, 8, 16] : List Int))) ∨ (c ≠ 0 ∧ c = 3 ∧ decide (deep c d) = decide (d ∈ ([1, 2, 4, 8] : List Int))) ∨ (c ≠ 0 ∧ c ≠ 3 ∧ ¬ 0 < parts c ∧ decide (deep c d) = false) ∨ (c ≠ 0 ∧ c ≠ 3 ∧ 0 < parts c ∧ d = 8 ∧ decide (deep c d) = true) ∨ (c ≠ 0 ∧ c ≠ 3 ∧ 0 < parts c ∧ ¬ d = 8 ∧ decide (deep c d) = decide (d = 16)) := by
  by_cases h0 : c = 0
  · refine .inl ⟨h0, decide_eq_decide.2 ?_⟩
    unfold deep; simp [h0]
  by_cases h3 : c = 3
  · refine .inr (.inl ⟨h0, h3, decide_eq_decide.2 ?_⟩)
    unfold deep; simp [h3]
  by_cases hp : 0 < parts c
  · have hc : c = 2 ∨ c = 4 ∨ c = 6 := by rcases pM c with h | h | h | h | h | h <;> omega
    by_cases h8 : d = 8
    · exact .inr (.inr (.inr (.inl ⟨h0, h3, hp, h8, decide_eq_true (.inr (.inr ⟨hc, .inl h8⟩))⟩)))
    · refine .inr (.inr (.inr (.inr ⟨h0, h3, hp, h8, decide_eq_decide.2 ?_⟩)))
      unfold deep
      exact ⟨fun h => by rcases h with h | h | h <;> omega, fun h => .inr (.inr ⟨hc, .inr h⟩)⟩
  · refine .inr (.inr (.inl ⟨h0, h3, hp, decide_eq_false ?_⟩))
    unfold deep
    rintro (h | h | h)
    · exact h0 h.1
    · exact h3 h.1
    · have : 0 < parts c := by rcases pM c with g | g | g | g | g | g <;> omega
      exact hp this
theorem ID {l : List Int} {x : Int} {i : Nat} (h : i < l.length) (e : x = l.getD i 0) : x ∈ l := by
  rw [e, List.getD_eq_getElem?_getD, List.getElem?_eq_getElem h]; exact List.getElem_mem h
theorem HH {l : List Int} {x : Int} (h : ∀ j, j < l.length → x ≠ l.getD j 0) : x ∉ l := fun hx => by
  obtain ⟨j, hj, e⟩ := List.getElem_of_mem hx
  refine h j hj ?_
  rw [List.getD_eq_getElem?_getD, List.getElem?_eq_getElem hj]; exact e.symm
theorem Hw {l : List Int} {x r : Int} {t : Bool} (ht : t = decide (x ∈ l)) (h : 0 ≤ r ↔ x ∈ l) : decide (0 ≤ r) = t := by rw [ht]; exact decide_eq_decide.2 h
end Go.aa

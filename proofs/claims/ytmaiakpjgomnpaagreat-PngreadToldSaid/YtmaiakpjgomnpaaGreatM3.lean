/- Walks of functions that the law reaches, and what they lean on; no conditions. -/
import Derived.Test.YtmaiakpjgomnpaaGreatM2
set_option linter.unusedVariables false
set_option linter.unusedSimpArgs false
set_option maxRecDepth 100000
namespace Go.ab
open Go.aj Go.af
section
variable {B : List Int} {mo mo' y : Int} {s s2 : St}
theorem wz (h : eY mo s y = .ok s2) : ((s2.out.length : Int) ≤ mo' → eY mo' s y = .ok s2) ∧ (mo' < s2.out.length → eY mo' s y = .error 6) := by
  obtain ⟨k, rfl⟩ := qS h
  have hl : ({ s with out := s.out ++ [y] } : St).out.length = s.out.length + 1 := by simp
  rw [hl]
  exact ⟨fun h => mT (by omega), fun h => mX (by omega)⟩
theorem Eu (h : fa B mo s = .ok s2) (hs : (s.out.length : Int) ≤ mo') : ((s2.out.length : Int) ≤ mo' → fa B mo' s = .ok s2) ∧ (mo' < s2.out.length → fa B mo' s = .error 6) := by
  rcases gI (sym s.lits B s.at_) with ⟨e, h1⟩ | ⟨⟨y, a⟩, h1⟩
  · rw [vV h1] at h; cases h
  by_cases hy : y < 256
  · rw [od h1 hy] at h ⊢; exact wz h
  by_cases hy2 : y = 256
  · rw [ru h1 hy2] at h ⊢; cases h; exact ⟨fun _ => rfl, fun k => by simp only at k; omega⟩
  rcases gI (fw B (y - 257) a) with ⟨e, hn⟩ | ⟨⟨n, a2⟩, hn⟩
  · rw [vH h1 (by omega) hn] at h; cases h
  rcases gI (eI B s.eO a2) with ⟨e, hf⟩ | ⟨⟨f, a3⟩, hf⟩
  · rw [vT h1 (by omega) hn hf] at h; cases h
  by_cases hfo : f ≤ s.out.length
  · rw [vM h1 (by omega) hn hf hfo] at h ⊢; cases h; exact ⟨fun _ => rfl, fun k => by simp only at k; omega⟩
  · rw [vI h1 (by omega) hn hf hfo] at h; cases h
theorem xZ (h : one B mo s = .ok s2) (hs : (s.out.length : Int) ≤ mo') : ((s2.out.length : Int) ≤ mo' → one B mo' s = .ok s2) ∧ (mo' < s2.out.length → one B mo' s = .error 6) := by
  by_cases hc : 0 < s.aB
  · unfold one at h ⊢; rw [if_pos hc] at h ⊢; exact wz h
  by_cases hk : s.kind = -1
  · rw [tO hc hk] at h ⊢
    refine ⟨fun _ => h, fun k => ?_⟩
    exfalso
    have : s2.out = s.out := by
      unfold dT at h
      split at h
      · cases h
      split at h
      · split at h
        · cases h
        split at h
        · cases h; rfl
        · cases h
      split at h
      · cases h; rfl
      split at h
      · split at h
        · cases h
        · cases h; rfl
      · cases h
    rw [this] at k; omega
  by_cases hk0 : s.kind = 0
  · by_cases hl : s.left = 0
    · rw [th hc hk hk0 hl] at h ⊢; cases h; exact ⟨fun _ => rfl, fun k => by simp only at k; omega⟩
    · by_cases hx : 8 * B.length < s.at_ + 8
      · rw [w7 hc hk hk0 hl hx] at h; cases h
      · rw [tV hc hk hk0 hl (by omega)] at h ⊢; exact wz h
  · rw [vO hc hk hk0] at h ⊢; exact Eu h hs
theorem yL {o : Oc} (hB : au B) (h : j9 B mo s o) : Ok B mo s → ∀ x n, o = .ok (x, n) → s.out.length ≤ x.length ∧ ((x.length : Int) ≤ mo' → j9 B mo' s (.ok (x, n))) ∧ ((s.out.length : Int) ≤ mo' → mo' < x.length → j9 B mo' s (.error 6)) := by
  induction h with
  | done h => intro hok x n e; cases e; exact ⟨Nat.le_refl _, fun _ => .done h, fun h1 h2 => by omega⟩
  | step h1 h2 h3 ih =>
    intro hok x n e
    have hg := lW hB hok h2
    obtain ⟨k1, k2, k3⟩ := ih hg.ok x n e
    have hle := hg.le
    refine ⟨by omega, fun k => .step h1 ((xZ h2 (by omega)).1 (by omega)) (k2 k), fun q1 q2 => ?_⟩
    rename_i s' _
    by_cases hc : mo' < s'.out.length
    · exact .fail h1 ((xZ h2 q1).2 hc)
    · exact .step h1 ((xZ h2 q1).1 (by omega)) (k3 (by omega) q2)
  | fail _ _ => intro _ x n e; cases e
end
end Go.ab
namespace Go.ab
open Go.aj Go.af
section
variable {B : List Int}
theorem jD (j i : Nat) (hi : i < 8) : jd B (8 * j + i) = B.getD j 0 / 2 ^ i % 2 := by
  unfold jd
  rw [show (8 * j + i) / 8 = j by omega, show (8 * j + i) % 8 = i by omega]
theorem tw (a m : Nat) : ∀ n, aT B a (m + n) = aT B a m + aT B (a + m) n * 2 ^ m
  | 0 => by simp [aT]
  | n + 1 => by
    have := tw a m n
    show aT B a (m + n) + jd B (a + (m + n)) * 2 ^ (m + n) = aT B a m + (aT B (a + m) n + jd B (a + m + n) * 2 ^ n) * 2 ^ m
    rw [this, Int.add_mul, Int.add_assoc, Nat.add_assoc a m n, Int.mul_assoc, ← Int.pow_add, Nat.add_comm n m]
theorem xj {j : Nat} (hb : 0 ≤ B.getD j 0 ∧ B.getD j 0 < 256) : aT B (8 * j) 8 = B.getD j 0 := by
  simp only [aT]
  rw [show 8 * j + 0 = 8 * j + 0 from rfl, jD j 0 (by omega), jD j 1 (by omega), jD j 2 (by omega), jD j 3 (by omega), jD j 4 (by omega), jD j 5 (by omega), jD j 6 (by omega), jD j 7 (by omega)]
  generalize B.getD j 0 = b at hb ⊢
  simp only [show (2 : Int) ^ 0 = 1 from rfl, show (2 : Int) ^ 1 = 2 from rfl, show (2 : Int) ^ 2 = 4 from rfl, show (2 : Int) ^ 3 = 8 from rfl, show (2 : Int) ^ 4 = 16 from rfl, show (2 : Int) ^ 5 = 32 from rfl, show (2 : Int) ^ 6 = 64 from rfl, show (2 : Int) ^ 7 = 128 from rfl]
  omega
theorem yR {j : Nat} (hb : 0 ≤ B.getD j 0 ∧ B.getD j 0 < 256) (hc : 0 ≤ B.getD (j + 1) 0 ∧ B.getD (j + 1) 0 < 256) : aT B (8 * j) 16 = B.getD j 0 + 256 * B.getD (j + 1) 0 := by
  rw [show (16 : Nat) = 8 + 8 from rfl, tw, xj hb, show 8 * j + 8 = 8 * (j + 1) by omega, xj hc]
  omega
theorem EU {mo : Int} (hB : au B) : ∀ (X : List Int) {s : St} {pos : Nat}, s.kind = 0 → s.aB = 0 → s.ended = false → s.left = X.length → s.at_ = 8 * pos → (∀ i, i < X.length → B.getD (pos + i) 0 = X.getD i 0) → pos + X.length ≤ B.length → (s.out.length : Int) + X.length ≤ mo →
    ∃ s', iA B mo s s' ∧ s'.at_ = 8 * (pos + X.length) ∧ s'.out = s.out ++ X ∧ s'.kind = -1 ∧ s'.aB = 0 ∧ s'.ended = s.last := by
  intro X
  induction X with
  | nil =>
    intro s pos hk hc he hl ha hx hp hm
    have h1 := th (B := B) (mo := mo) (s := s) (by omega) (by omega) hk hl
    exact ⟨_, iA.one he h1, by simpa using ha, by simp, rfl, hc, rfl⟩
  | cons x X ih =>
    intro s pos hk hc he hl ha hx hp hm
    have hx0 : B.getD pos 0 = x := by simpa using hx 0 (by simp)
    have hp2 : pos + (X.length + 1) ≤ B.length := by simpa using hp
    have hl2 : s.left = X.length + 1 := by simpa using hl
    have hm2 : (s.out.length : Int) + (X.length + 1) ≤ mo := by simpa using hm
    have h1 := CN (B := B) (mo := mo) (s := s) (by omega) (by omega) hk (by omega) (by omega) (by omega)
    rw [ha, xj (hB.get pos), hx0] at h1
    obtain ⟨s', g, a1, a2, a3, a4, a5⟩ := ih (s := { s with at_ := 8 * pos + 8, left := s.left - 1, out := s.out ++ [x] }) (pos := pos + 1) hk hc he (by show s.left - 1 = X.length; omega) (by show 8 * pos + 8 = 8 * (pos + 1); omega) (fun i hi => by
      have := hx (i + 1) (by simp; omega)
      rw [show pos + 1 + i = pos + (i + 1) by omega, this]; simp) (by omega) (by show ((s.out ++ [x]).length : Int) + X.length ≤ mo; simp; omega)
    exact ⟨s', (iA.one he h1).trans g, by rw [a1]; simp; omega, by rw [a2]; simp, a3, a4, a5⟩
def gf (la : Int) (X : List Int) : List Int := [la, (X.length : Int) % 256, (X.length : Int) / 256, 255 - (X.length : Int) % 256, 255 - (X.length : Int) / 256] ++ X
theorem k5 (la : Int) (X : List Int) : (gf la X).length = 5 + X.length := by simp [gf]; omega
theorem vv {mo : Int} (hB : au B) {s : St} {pos : Nat} {la : Int} {X : List Int} (hla : la = 0 ∨ la = 1) (hX : X.length ≤ 65535) (hk : s.kind = -1) (hc : s.aB = 0) (he : s.ended = false) (ha : s.at_ = 8 * pos) (hx : ∀ i, i < (gf la X).length → B.getD (pos + i) 0 = (gf la X).getD i 0) (hp : pos + (gf la X).length ≤ B.length) (hm : (s.out.length : Int) + X.length ≤ mo) :
    ∃ s', iA B mo s s' ∧ s'.at_ = 8 * (pos + (gf la X).length) ∧ s'.out = s.out ++ X ∧ s'.kind = -1 ∧ s'.aB = 0 ∧ s'.ended = decide (la = 1) := by
  have hbl := k5 la X
  have b0 : B.getD pos 0 = la := by simpa [gf] using hx 0 (by omega)
  have b1 : B.getD (pos + 1) 0 = (X.length : Int) % 256 := by simpa [gf] using hx 1 (by omega)
  have b2 : B.getD (pos + 2) 0 = (X.length : Int) / 256 := by simpa [gf] using hx 2 (by omega)
  have b3 : B.getD (pos + 3) 0 = 255 - (X.length : Int) % 256 := by simpa [gf] using hx 3 (by omega)
  have b4 : B.getD (pos + 4) 0 = 255 - (X.length : Int) / 256 := by simpa [gf] using hx 4 (by omega)
  have e0 : aT B s.at_ 1 = la := by
    rw [ha, wG, show 8 * pos = 8 * pos + 0 from rfl, jD pos 0 (by omega), b0]
    rcases hla with rfl | rfl <;> rfl
  have e1 : aT B (s.at_ + 1) 2 = 0 := by
    rw [ha]
    simp only [aT]
    rw [show 8 * pos + 1 + 0 = 8 * pos + 1 from rfl, show 8 * pos + 1 + 1 = 8 * pos + 2 from rfl, jD pos 1 (by omega), jD pos 2 (by omega), b0]
    rcases hla with rfl | rfl <;> rfl
  have hal : dN (s.at_ + 3) = 8 * (pos + 1) := by rw [yn, ha]; omega
  have n1 : aT B (dN (s.at_ + 3)) 16 = (X.length : Int) := by rw [hal, yR (hB.get _) (hB.get _), b1, show pos + 1 + 1 = pos + 2 from rfl, b2]; omega
  have n2 : aT B (dN (s.at_ + 3) + 16) 16 = 65535 - (X.length : Int) := by rw [hal, show 8 * (pos + 1) + 16 = 8 * (pos + 3) by omega, yR (hB.get _) (hB.get _), b3, show pos + 3 + 1 = pos + 4 from rfl, b4]; omega
  have hb := xv (B := B) (s := s) (by omega) e1 (by omega) (by rw [n1, n2]; omega)
  have h1 := (tO (B := B) (mo := mo) (s := s) (by omega) hk).trans hb
  rw [n1, e0, hal] at h1
  obtain ⟨s', g, a1, a2, a3, a4, a5⟩ := EU (mo := mo) hB X (s := { s with at_ := 8 * (pos + 1) + 32, kind := 0, left := ((X.length : Int)).toNat, last := decide (la = 1) }) (pos := pos + 5) rfl hc he (by show ((X.length : Int)).toNat = X.length; omega) (by show 8 * (pos + 1) + 32 = 8 * (pos + 5); omega) (fun i hi => by
    have := hx (5 + i) (by omega)
    rw [show pos + 5 + i = pos + (5 + i) by omega, this]; simp [gf, Nat.add_comm 5 i]) (by omega) hm
  exact ⟨s', (iA.one he h1).trans g, by rw [a1]; omega, a2, a3, a4, a5⟩
def gg : List (List Int) → List Int
  | [] => []
  | [X] => gf 1 X
  | X :: Y :: L => gf 0 X ++ gg (Y :: L)
theorem wu (a b : List Int) (i : Nat) (h : i < a.length) : (a ++ b).getD i 0 = a.getD i 0 := by
  rw [List.getD_eq_getElem?_getD, List.getElem?_append_left h, ← List.getD_eq_getElem?_getD]
theorem ea (a b : List Int) (i : Nat) : (a ++ b).getD (a.length + i) 0 = b.getD i 0 := by
  rw [List.getD_eq_getElem?_getD, List.getElem?_append_right (by omega), Nat.add_sub_cancel_left, ← List.getD_eq_getElem?_getD]
theorem Fc {mo : Int} (hB : au B) : ∀ (L : List (List Int)) {s : St} {pos : Nat}, L ≠ [] → (∀ X ∈ L, X.length ≤ 65535) → s.kind = -1 → s.aB = 0 → s.ended = false → s.at_ = 8 * pos → (∀ i, i < (gg L).length → B.getD (pos + i) 0 = (gg L).getD i 0) → pos + (gg L).length ≤ B.length → (s.out.length : Int) + L.flatten.length ≤ mo →
    ∃ s', iA B mo s s' ∧ s'.at_ = 8 * (pos + (gg L).length) ∧ s'.out = s.out ++ L.flatten ∧ s'.ended = true := by
  intro L
  induction L with
  | nil => intro s pos h; exact (h rfl).elim
  | cons X L ih =>
    intro s pos _ hL hk hc he ha hx hp hm
    cases L with
    | nil =>
      obtain ⟨s', g, a1, a2, a3, a4, a5⟩ := vv (mo := mo) hB (.inr rfl) (hL X (List.mem_cons_self ..)) hk hc he ha hx hp (by simpa using hm)
      exact ⟨s', g, a1, by simpa using a2, a5⟩
    | cons Y L =>
      have hlen : (gg (X :: Y :: L)).length = (gf 0 X).length + (gg (Y :: L)).length := by simp [gg]
      have hfl : (X :: Y :: L).flatten.length = X.length + (Y :: L).flatten.length := by simp
      obtain ⟨s', g, a1, a2, a3, a4, a5⟩ := vv (mo := mo) hB (.inl rfl) (hL X (List.mem_cons_self ..)) hk hc he ha (fun i hi => by rw [hx i (by omega)]; exact wu _ _ _ hi) (by omega) (by omega)
      obtain ⟨s2, g2, c1, c2, c3⟩ := ih (s := s') (pos := pos + (gf 0 X).length) (by simp) (fun Z hZ => hL Z (List.mem_cons_of_mem _ hZ)) a3 a4 (by rw [a5]; rfl) a1 (fun i hi => by
        rw [show pos + (gf 0 X).length + i = pos + ((gf 0 X).length + i) by omega, hx _ (by omega)]; exact ea _ _ _) (by omega) (by rw [a2]; simp only [List.length_append]; omega)
      exact ⟨s2, g.trans g2, by rw [c1, hlen]; omega, by rw [c2, a2]; simp, c3⟩
end
theorem wy {la : Int} {X : List Int} (hla : la = 0 ∨ la = 1) (hX : X.length ≤ 65535) (h : au X) : au (gf la X) := by
  intro x hx
  unfold gf at hx
  rcases List.mem_append.1 hx with hx | hx
  · simp only [List.mem_cons, List.not_mem_nil, or_false] at hx
    rcases hx with rfl | rfl | rfl | rfl | rfl <;> omega
  · exact h x hx
theorem r9 : ∀ (L : List (List Int)), (∀ X ∈ L, X.length ≤ 65535 ∧ au X) → au (gg L)
  | [], _ => fun x hx => by cases hx
  | [X], h => wy (.inr rfl) (h X (List.mem_cons_self ..)).1 (h X (List.mem_cons_self ..)).2
  | X :: Y :: L, h => fun x hx => by
    rcases List.mem_append.1 hx with hx | hx
    · exact wy (.inl rfl) (h X (List.mem_cons_self ..)).1 (h X (List.mem_cons_self ..)).2 x hx
    · exact r9 (Y :: L) (fun Z hZ => h Z (List.mem_cons_of_mem _ hZ)) x hx
theorem EE {L : List (List Int)} (hne : L ≠ []) (hL : ∀ X ∈ L, X.length ≤ 65535 ∧ au X) {t : List Int} (ht : au t) : jW (gg L ++ t) L.flatten.length (L.flatten, ((gg L).length : Int), 0) ∧ ∀ mo : Int, 0 ≤ mo → mo < L.flatten.length → jW (gg L ++ t) mo ([], 0, 6) := by
  have hB : au (gg L ++ t) := fun x hx => by
    rcases List.mem_append.1 hx with hx | hx
    · exact r9 L hL x hx
    · exact ht x hx
  obtain ⟨s', g, a1, a2, a3⟩ := Fc (mo := L.flatten.length) hB L (s := start) (pos := 0) hne (fun X hX => (hL X hX).1) rfl rfl rfl rfl (fun i hi => by rw [Nat.zero_add]; exact wu _ _ _ hi) (by rw [List.length_append]; omega) (by show ((0 : Nat) : Int) + _ ≤ _; omega)
  have hr : j9 (gg L ++ t) L.flatten.length start (.ok (L.flatten, (gg L).length)) := by
    have := g _ (.done a3)
    rw [a2, a1, show (8 * (0 + (gg L).length) + 7) / 8 = (gg L).length by omega, show start.out ++ L.flatten = L.flatten from rfl] at this
    exact this
  refine ⟨.inr ⟨by omega, _, hr, rfl⟩, fun mo h0 h1 => ?_⟩
  have hm := (yL (mo' := mo) hB hr (pc (by omega)) _ _ rfl).2.2 (by show ((0 : Nat) : Int) ≤ mo; omega) h1
  exact .inr ⟨h0, _, hm, rfl⟩
def JX (L : List (List Int)) : Nat → List Int
  | 0 => []
  | i + 1 => JX L i ++ gf (if i + 1 = L.length then 1 else 0) (L.getD i [])
end Go.ab
namespace Go.ab
open Go.aj Go.af
structure Bk (L : List (List Int)) (i : Nat) : Prop where
  le : i ≤ L.length
  Rr : ∀ j, j < i → (L.getD j []).length ≤ 1000
  s7 : ∀ j, j < i → au (L.getD j [])
  Sv : (L.take i).flatten.length ≤ 1000 * i
  SE : (JX L i).length ≤ 1005 * i
end Go.ab
namespace Go.aj
structure Po (bs : List Int) (i : Nat) (o : List Int) : Prop where
  len : o.length = (bs.length + 7) / 8
  s7 : au o
  get : ∀ k, k < i → jd o k = bs.getD k 0
  zero : ∀ k, i ≤ k → jd o k = 0
end Go.aj
namespace Go.ab
open Go.aj Go.af
def SX (s : Int) : Int := if 280 ≤ s then 192 + s - 280 else if 256 ≤ s then s - 256 else if 144 ≤ s then 400 + s - 144 else 48 + s
def SZ (s : Int) : Nat := if 280 ≤ s then 8 else if 256 ≤ s then 7 else if 144 ≤ s then 9 else 8
structure Pq (bs o : List Int) : Prop where
  s7 : au o
  len : bs.length ≤ 8 * o.length
  get : ∀ i, i < bs.length → jd o i = bs.getD i 0
section
variable {bs o u w r out : List Int} {mo s y d : Int} {z : St}
structure Rd (o : List Int) (mo : Int) (z : St) (a : Nat) (out : List Int) : Prop where
  AD : iA o mo start z
  at_ : z.at_ = a
  out : z.out = out
  kind : z.kind = 1
  aB : z.aB = 0
  ended : z.ended = false
  last : z.last = true
  lits : z.lits = ga
  eO : z.eO = lB
def LI (d : Nat) : Nat → List Int → List Int
  | 0, l => l
  | k + 1, l => LI d k (l ++ [l.getD (l.length - d) 0])
def jg (n d : Int) : List Int := wb ga (254 + n) ++ wb lB (d - 1)
end
def GW (d : Int) : List Int → List Int
  | [] => []
  | m :: l => jg (3 + m % 8) d ++ GW d l
def OM (d : Int) : List Int → List Int → List Int
  | [], out => out
  | m :: l, out => OM d l (LI d.toNat (3 + m % 8).toNat out)
def Sg (head : List Int) (d : Int) (l : List Int) : List Int := lX 3 3 ++ af.bits ga head ++ GW d l
end Go.ab
namespace Go.ab
open Go.aj Go.af
theorem kr {l : List Int} {i : Nat} (h : i < l.length) : l.take (i + 1) = l.take i ++ [l.getD i 0] := by
  rw [List.take_succ_eq_append_getElem h]
  simp [List.getD_eq_getElem?_getD, h]
def SV (l : List Int) : Prop := ∀ x ∈ l, 0 ≤ x ∧ x ≤ 1
end Go.ab
namespace Go.ab
open Go.aj Go.af
end Go.ab
namespace Go.aO
open Go.aj Go.af Go.ab
def x3 (x y z : Int) : Int := IntKind.u32.wrap ((BitVec.ofInt IntKind.u32.bits (IntKind.u32.wrap ((BitVec.ofInt IntKind.u32.bits (IntKind.u32.wrap (x * 2 ^ (min (16 : Int).toNat IntKind.u32.bits))) ||| BitVec.ofInt IntKind.u32.bits (IntKind.u32.wrap (y * 2 ^ (min (8 : Int).toNat IntKind.u32.bits)))).toNat : Int)) ||| BitVec.ofInt IntKind.u32.bits z).toNat : Int)
def nu (x y z : Int) : Int := (IntKind.u32.wrap (x3 x y z * 2654435761)).fdiv (2 ^ (min (19 : Int).toNat IntKind.u32.bits))
def hs (B : List Int) (a : Nat) : Int := nu (B.getD a 0) (B.getD (a + 1) 0) (B.getD (a + 2) 0)
structure Fd where
  hd : List Int
  nx : List Int
def Ma (B : List Int) (f : Fd) (a : Nat) : Fd := if B.length < a + 3 then f else ⟨f.hd.set (hs B a).toNat (a : Int), f.nx.set a (f.hd.getD (hs B a).toNat 0)⟩
def AN (B : List Int) (f : Fd) (a : Nat) : Nat → Fd
  | 0 => f
  | k + 1 => Ma B (AN B f a k) (a + k)
def AH (B : List Int) (old a : Nat) : Nat → Nat → Nat
  | 0, n => n
  | f + 1, n => if a + n < B.length ∧ B.getD (old + n) 0 = B.getD (a + n) 0 then AH B old a f (n + 1) else n
def O9 (B : List Int) (old a : Nat) : Nat := AH B old a 258 0
def ta (B nx : List Int) (a : Nat) : Nat → Int → Int → Int → Int × Int
  | 0, _, n, cE => (n, cE)
  | t + 1, old, n, cE => if old = -1 ∨ 32768 < (a : Int) - old then (n, cE) else
    if n < (O9 B old.toNat a : Int) then ta B nx a t (nx.getD old.toNat 0) (O9 B old.toNat a) ((a : Int) - old) else ta B nx a t (nx.getD old.toNat 0) n cE
def rq (B : List Int) (f : Fd) (a : Nat) : Int × Int := if B.length < a + 3 then (0, 0) else ta B f.nx a 24 (f.hd.getD (hs B a).toNat 0) 0 0
structure ef where
  lit : Int
  n : Int
  cE : Int
def vQ (B : List Int) : Nat → Fd → Nat → List ef
  | 0, _, _ => []
  | q + 1, f, a => if a < B.length then
      (if (rq B f a).1 < 3 then ⟨B.getD a 0, 0, 0⟩ :: vQ B q (AN B f a 1) (a + 1)
       else ⟨0, (rq B f a).1, (rq B f a).2⟩ :: vQ B q (AN B f a (rq B f a).1.toNat) (a + (rq B f a).1.toNat)) else []
def QQ (B : List Int) : Fd := ⟨List.replicate 8192 (-1), List.replicate B.length 0⟩
def ui (B : List Int) : List ef := vQ B B.length (QQ B) 0
structure SW (B : List Int) (old a n : Nat) : Prop where
  le : n ≤ 258
  room : a + n ≤ B.length ∨ n = 0
  same : ∀ i, i < n → B.getD (old + i) 0 = B.getD (a + i) 0
structure S0 (B : List Int) (n : Nat) (f : Fd) : Prop where
  hl : f.hd.length = 8192
  nl : f.nx.length = B.length
  h : ∀ i, i < 8192 → -1 ≤ f.hd.getD i 0 ∧ f.hd.getD i 0 < n
  x : ∀ i, i < B.length → -1 ≤ f.nx.getD i 0 ∧ (f.nx.getD i 0 < n ∨ f.nx.getD i 0 = 0)
structure Fs (B : List Int) (a : Nat) (r : Int × Int) : Prop where
  Re : (r.1 = 0 ∧ r.2 = 0) ∨ (1 ≤ r.1 ∧ r.1 ≤ 258 ∧ 1 ≤ r.2 ∧ r.2 ≤ 32768 ∧ r.2 ≤ a ∧ a + r.1.toNat ≤ B.length ∧ ∀ i, i < r.1.toNat → B.getD (a - r.2.toNat + i) 0 = B.getD (a + i) 0)
def RK : List ef → List Int → List Int
  | [], o => o
  | t :: l, o => RK l (if t.n = 0 then o ++ [t.lit] else LI t.cE.toNat t.n.toNat o)
structure tQ (t : ef) : Prop where
  Re : (t.n = 0 ∧ t.cE = 0 ∧ 0 ≤ t.lit ∧ t.lit < 256) ∨ (t.lit = 0 ∧ 3 ≤ t.n ∧ t.n ≤ 258 ∧ 1 ≤ t.cE ∧ t.cE ≤ 32768)
inductive sZ (B : List Int) : Nat → List ef → Prop
  | nil : sZ B B.length []
  | lit {a : Nat} {l : List ef} : a < B.length → sZ B (a + 1) l → sZ B a (⟨B.getD a 0, 0, 0⟩ :: l)
  | cp {a n d : Nat} {l : List ef} : 3 ≤ n → n ≤ 258 → 1 ≤ d → d ≤ 32768 → d ≤ a → a + n ≤ B.length → (∀ i, i < n → B.getD (a - d + i) 0 = B.getD (a + i) 0) → sZ B (a + n) l → sZ B a (⟨0, n, d⟩ :: l)
section
variable {B nx : List Int} {a k o : Nat} {old n cE : Int}
end
end Go.aO
namespace Go.aO
open Go.aj Go.af Go.ab
def AZ (lim x : Int) : Nat → Nat → Nat
  | 0, m => m
  | f + 1, m => if lim ≤ x / 2 ^ m then AZ lim x f (m + 1) else m
def sT (lim x : Int) : Nat := AZ lim x 16 0
def uO (n : Int) : Int := if n - 3 = 255 then 285 else if n - 3 < 8 then 257 + (n - 3) else 257 + 4 * (sT 8 (n - 3) : Int) + (n - 3) / 2 ^ sT 8 (n - 3)
def Ex (n : Int) : Nat := if n - 3 = 255 then 0 else if n - 3 < 8 then 0 else sT 8 (n - 3)
def Fe (n : Int) : Int := if n - 3 = 255 then 0 else if n - 3 < 8 then 0 else (n - 3) % 2 ^ sT 8 (n - 3)
def uG (f : Int) : Int := if f - 1 < 4 then f - 1 else 2 * (sT 4 (f - 1) : Int) + (f - 1) / 2 ^ sT 4 (f - 1)
def D0 (f : Int) : Nat := if f - 1 < 4 then 0 else sT 4 (f - 1)
def FO (f : Int) : Int := if f - 1 < 4 then 0 else (f - 1) % 2 ^ sT 4 (f - 1)
structure Mr (lim x : Int) (m : Nat) : Prop where
  lt : x / 2 ^ m < lim
  ge : m = 0 ∨ lim ≤ x / 2 ^ (m - 1)
  le : m ≤ 13
def uk (ls ds : List Int) (t : ef) : List Int := if t.n = 0 then wb ls t.lit else wb ls (uO t.n) ++ lX (Fe t.n) (Ex t.n) ++ wb ds (uG t.cE) ++ lX (FO t.cE) (D0 t.cE)
def qU (ls ds : List Int) (l : List ef) : List Int := l.flatMap (uk ls ds)
structure Fits (ls ds : List Int) (l : List ef) : Prop where
  ok : ∀ t ∈ l, tQ t
  lit : ∀ t ∈ l, t.n = 0 → t.lit < ls.length ∧ oA ls t.lit = true
  cp : ∀ t ∈ l, t.n ≠ 0 → uO t.n < ls.length ∧ oA ls (uO t.n) = true ∧ uG t.cE < ds.length ∧ oA ds (uG t.cE) = true
  end_ : (256 : Int) < ls.length ∧ oA ls 256 = true
end Go.aO
namespace Go.lJ
abbrev Pk := Int × List Int
def PG : List Pk → List Pk
  | a :: b :: l => (a.1 + b.1, a.2 ++ b.2) :: PG l
  | _ => []
def sy (l : List Pk) (m : Nat) : List Int := (l.take m).flatMap (·.2)
def JT : List Pk → List Pk → List Pk
  | [], P => P
  | A, [] => A
  | a :: A, b :: P => if a.1 ≤ b.1 then a :: JT A (b :: P) else b :: JT (a :: A) P
termination_by A P => A.length + P.length
abbrev qH (l : List Pk) : Prop := l.Pairwise (fun x y => x.1 ≤ y.1)
structure SS (l l' : List Pk) : Prop where
  RH : qH l'
  Sn : ∀ c, l'.filter (fun x => decide (x.1 = c)) = l.filter (fun x => decide (x.1 = c))
end Go.lJ
namespace Go.lJ
def lv (A : List Pk) : Nat → List Pk
  | 0 => []
  | j + 1 => JT A (PG (lv A j))
def sm (A : List Pk) (i : Nat) : Int := (A.getD i (0, [])).2.headD 0
structure Lf (A : List Pk) : Prop where
  RH : qH A
  one : ∀ i, i < A.length → (A.getD i (0, [])).2 = [sm A i]
  inj : ∀ i j, i < A.length → j < A.length → sm A i = sm A j → i = j
  pos : ∀ x ∈ A, 0 < x.1
def Hv (A : List Pk) (e : Pk) : Prop := 0 ≤ e.1 ∧ ∀ i, i < A.length → sm A i ∈ e.2 → (A.getD i (0, [])).1 ≤ e.1
def ct (A : List Pk) (j m i : Nat) : Nat := (sy (lv A j) m).count (sm A i)
def RT (f : Nat → Nat) : Nat → Nat
  | 0 => 0
  | n + 1 => RT f n + f n
end Go.lJ
namespace Go.lJ
open Go.af
def JD (s : Nat → Int) (v : Nat → Int) (base : List Int) : Nat → List Int
  | 0 => base
  | k + 1 => (JD s v base k).set (s k).toNat (v k)
def cs (A : List Pk) (df : Nat) : List Int := (List.range A.length).map (fun i => (ct A df (2 * A.length - 2) i : Int))
structure Ln (A : List Pk) (df : Nat) (vs : List Int) : Prop where
  perm : vs.Perm (cs A df)
  down : vs.Pairwise (fun x y => y ≤ x)
def out (A : List Pk) (vs : List Int) (L : Nat) : List Int := JD (sm A) (fun i => vs.getD i 0) (List.replicate L 0) A.length
structure Good (A : List Pk) (df L : Nat) (o : List Int) : Prop where
  len : o.length = L
  leaf : ∀ i, i < A.length → 1 ≤ o.getD (sm A i).toNat 0 ∧ o.getD (sm A i).toNat 0 ≤ df
  rest : ∀ x, (∀ i, i < A.length → (sm A i).toNat ≠ x) → o.getD x 0 = 0
  down : ∀ i j, i ≤ j → j < A.length → o.getD (sm A j).toNat 0 ≤ o.getD (sm A i).toNat 0
  code : cg o = 0
end Go.lJ
namespace Go.lJ
open Go.af
def LA (fr : List Int) (k : Nat) : List Pk := ((List.range k).filter (fun i => decide (0 < fr.getD i 0))).map (fun i : Nat => (fr.getD i 0, [(i : Int)]))
def cO (L : Nat) (X : List Int) : List Int := (List.range L).map (fun k : Nat => (X.count (k : Int) : Int))
structure OV (fr : List Int) (df : Nat) (o : List Int) : Prop where
  len : o.length = fr.length
  code : cg o = 0
  pos : ∀ i, i < fr.length → 0 < fr.getD i 0 → 1 ≤ o.getD i 0 ∧ o.getD i 0 ≤ df
  zero : ∀ i, i < fr.length → ¬ 0 < fr.getD i 0 → o.getD i 0 = 0
  one : (LA fr fr.length).length = 1 → ∀ i, o.getD i 0 ≤ 1
  down : ∀ i k, i < fr.length → k < fr.length → fr.getD k 0 < fr.getD i 0 → 0 < fr.getD k 0 → o.getD i 0 ≤ o.getD k 0
end Go.lJ
namespace Go.lJ
open Go.af
def Kr (x : Pk) : List Pk → List Pk
  | [] => [x]
  | y :: ys => if x.1 ≤ y.1 then x :: y :: ys else y :: Kr x ys
def Ek : List Pk → List Pk
  | [] => []
  | x :: xs => Kr x (Ek xs)
def uU (fr : List Int) (df : Nat) : List Int :=
  match LA fr fr.length with
  | [] => List.replicate fr.length 0
  | [x] => (List.replicate fr.length 0).set (x.2.headD 0).toNat 1
  | l => out (Ek l) ((cs (Ek l) df).mergeSort fun x y => decide (x ≤ y)).reverse fr.length
structure Sb (fr : List Int) (df : Nat) (o : List Int) : Prop extends OV fr df o where
  CI : o = uU fr df
end Go.lJ
namespace Go.aO
open Go.aj Go.af Go.ab
def GX (fr : List Int) : Nat → Int
  | 0 => 0
  | k + 1 => if GX fr k < fr.getD k 0 then fr.getD k 0 else GX fr k
def KW (x : Int) : Nat → Nat → Nat
  | 0, m => m
  | f + 1, m => if 1048576 < x / 2 ^ m then KW x f (m + 1) else m
def dn (fr : List Int) : Nat := KW (GX fr fr.length) 16 0
def rr (d : Nat) (x : Int) : Int := if 0 < x then (if 1 < x / 2 ^ d then x / 2 ^ d else 1) else x
def D8 (fr : List Int) (d : Nat) : Nat → List Int
  | 0 => fr
  | k + 1 => (D8 fr d k).set k (rr d (fr.getD k 0))
def wB (fr : List Int) : List Int := D8 fr (dn fr) fr.length
def xM (l : List Int) (s : Int) : List Int := l.set s.toNat (l.getD s.toNat 0 + 1)
def Qr (t : ef) : Int := if t.n = 0 then t.lit else uO t.n
def wZ : List ef → List Int → List Int
  | [], a => a
  | t :: l, a => wZ l (xM a (Qr t))
def FI : List ef → List Int → List Int
  | [], b => b
  | t :: l, b => FI l (if t.n = 0 then b else xM b (uG t.cE))
def O4 : List Int := (List.replicate 286 0).set 256 1
def Px : List Int := List.replicate 30 0
def fA (l : List ef) : List Int := wB (wZ l O4)
def fB (l : List ef) : List Int := wB (FI l Px)
end Go.aO
namespace Go.aO
open Go.aj Go.af Go.ab
def jo : Nat → List Int → List (List Int)
  | 0, Z => [Z]
  | f + 1, Z => if Z.length ≤ 65535 then [Z] else Z.take 65535 :: jo f (Z.drop 65535)
theorem xg : ∀ (f : Nat) (Z : List Int), ∃ X L, jo f Z = X :: L
  | 0, Z => ⟨Z, [], rfl⟩
  | f + 1, Z => by
    unfold jo
    split
    · exact ⟨_, _, rfl⟩
    · exact ⟨_, _, rfl⟩
theorem rY {Z : List Int} (h : Z.length ≤ 65535) : ∀ f, jo f Z = [Z]
  | 0 => rfl
  | f + 1 => if_pos h
theorem sx {Z : List Int} (h : 65535 < Z.length) (f : Nat) : gg (jo (f + 1) Z) = gf 0 (Z.take 65535) ++ gg (jo f (Z.drop 65535)) := by
  have h0 : jo (f + 1) Z = Z.take 65535 :: jo f (Z.drop 65535) := if_neg (by omega)
  rw [h0]
  obtain ⟨X, L, e⟩ := xg f (Z.drop 65535)
  rw [e]; rfl
theorem su : ∀ (f : Nat) (Z : List Int), (jo f Z).flatten = Z
  | 0, Z => by simp [jo]
  | f + 1, Z => by
    unfold jo
    split
    · simp
    · rw [List.flatten_cons, su f, List.take_append_drop]
theorem qg : ∀ (f : Nat) (Z : List Int), Z.length ≤ 65535 * (f + 1) → ∀ X ∈ jo f Z, X.length ≤ 65535
  | 0, Z, h, X, hX => by simp only [jo, List.mem_singleton] at hX; subst hX; omega
  | f + 1, Z, h, X, hX => by
    unfold jo at hX
    split at hX
    · rw [List.mem_singleton.1 hX]; assumption
    · rcases List.mem_cons.1 hX with rfl | hX
      · rw [List.length_take]; omega
      · exact qg f _ (by rw [List.length_drop]; omega) X hX
theorem H5 : ∀ (f : Nat) (Z : List Int), Z.length ≤ 65535 * (f + 1) → (gg (jo f Z)).length ≤ Z.length + 5 * (Z.length / 65535 + 1)
  | 0, Z, h => by show (gf 1 Z).length ≤ _; rw [k5]; omega
  | f + 1, Z, h => by
    rcases Nat.lt_or_ge 65535 Z.length with h1 | h1
    · have ih := H5 f (Z.drop 65535) (by rw [List.length_drop]; omega)
      rw [sx h1, List.length_append, k5, List.length_take]
      rw [List.length_drop] at ih
      omega
    · rw [rY h1]; show (gf 1 Z).length ≤ _; rw [k5]; omega
theorem vY : ∀ (f : Nat) (Z : List Int), Z.length ≤ 65535 * (f + 1) → (gg (jo f Z)).length = Z.length + 5 * ((Z.length - 1) / 65535 + 1)
  | 0, Z, h => by show (gf 1 Z).length = _; rw [k5]; omega
  | f + 1, Z, h => by
    rcases Nat.lt_or_ge 65535 Z.length with h1 | h1
    · have ih := vY f (Z.drop 65535) (by rw [List.length_drop]; omega)
      rw [sx h1, List.length_append, k5, List.length_take]
      rw [List.length_drop] at ih
      omega
    · rw [rY h1]; show (gf 1 Z).length = _; rw [k5]; omega
def iB (B : List Int) : List Int := gg (jo 64 B)
theorem Nj (B : List Int) : [] ++ gg (jo 64 B) = iB B := rfl
theorem Ev {O Z B : List Int} {f : Nat} (h : O ++ gg (jo f Z) = iB B) (hZ : Z.length ≤ 65535) : O ++ [1, (Z.length : Int) % 256, (Z.length : Int) / 256, 255 - (Z.length : Int) % 256, 255 - (Z.length : Int) / 256] ++ Z = iB B := by
  rw [← h, rY hZ, List.append_assoc]; rfl
theorem EN {O Z B : List Int} {f : Nat} (h : O ++ gg (jo (f + 1) Z) = iB B) (hZ : 65535 < Z.length) : O ++ [0, (65535 : Int) % 256, (65535 : Int) / 256, 255 - (65535 : Int) % 256, 255 - (65535 : Int) / 256] ++ Z.take 65535 ++ gg (jo f (Z.drop 65535)) = iB B := by
  rw [← h, sx hZ]
  have : (Z.take 65535).length = 65535 := by rw [List.length_take]; omega
  unfold gf
  rw [this]
  simp only [List.append_assoc]
  rfl
theorem rF {B : List Int} (h : B.length ≤ 4194304) : (iB B).length = B.length + 5 * ((B.length - 1) / 65535 + 1) := vY 64 B (by omega)
theorem yV {B t : List Int} (h : B.length ≤ 4194304) (hB : au B) (ht : au t) : jW (iB B ++ t) B.length (B, ((iB B).length : Int), 0) ∧ ∀ mo : Int, 0 ≤ mo → mo < B.length → jW (iB B ++ t) mo ([], 0, 6) := by
  obtain ⟨X, L, e⟩ := xg 64 B
  have h1 := EE (L := jo 64 B) (by rw [e]; simp) (fun X hX => ⟨qg 64 B (by omega) X hX, fun x hx => hB x (by
    have := su 64 B
    rw [← this]; exact List.mem_flatten.2 ⟨X, hX, hx⟩)⟩) ht
  rw [su] at h1
  exact h1
end Go.aO
namespace Go.lJ
open Go.af
end Go.lJ
namespace Go.aO
open Go.aj Go.af Go.ab
def nB (bs : List Int) (a : Nat) : Nat → Int
  | 0 => 0
  | n + 1 => nB bs a n + bs.getD (a + n) 0 * 2 ^ n
def F0 (bs : List Int) : List Int := (List.range ((bs.length + 7) / 8)).map fun j => nB bs (8 * j) 8
def QZ (l : List ef) : List Int := lX 1 1 ++ lX 1 2 ++ (qU ga lB l ++ wb ga 256)
def K1 (l : List ef) : List Int := F0 (QZ l)
def dA (l : List ef) : List Int := lJ.uU (fA l) 15
def dB (l : List ef) : List Int := lJ.uU (fB l) 15
def Eo : List Int → List Int → List Int
  | [], f => f
  | n :: l, f => Eo l (xM f n)
def D6 (l : List ef) : List Int := dA l ++ dB l
def PF : List Int := List.replicate 19 0
def O6 (l : List ef) : List Int := Eo (D6 l) PF
def dF (l : List ef) : List Int := lJ.uU (O6 l) 7
def dG (f : List Int) (k : Nat) : List Int := (mF.take k).flatMap fun i => lX (f.getD i.toNat 0) 3
def Pn : List Int := lX 1 1 ++ lX 2 2 ++ lX 29 5 ++ lX 29 5 ++ lX 15 4
def Rw (l : List ef) : List Int := Pn ++ dG (dF l) 19 ++ af.bits (dF l) (D6 l) ++ (qU (dA l) (dB l) l ++ wb (dA l) 256)
def LF (l : List ef) : List Int := F0 (Rw l)
end Go.aO
namespace Go.aO
open Go.aj Go.af Go.ab
def Pm {α : Type} (a b c : α) : Nat → α
  | 0 => a
  | 1 => b
  | _ => c
def bi (n : Nat → Nat) : Nat → Nat
  | 0 => 0
  | k + 1 => if n (k + 1) < n (bi n k) then k + 1 else bi n k
def sN (B : List Int) : Nat → Nat := Pm (iB B).length (K1 (ui B)).length (LF (ui B)).length
def n7 (B : List Int) : List Int := Pm (iB B) (K1 (ui B)) (LF (ui B)) (bi (sN B) 2)
end Go.aO
namespace Go.aO
open Go.aj Go.af Go.ab
end Go.aO
namespace Go.aO
open Go.aj Go.af Go.ab
def DA (n : Int) : Int := if n < 0 then 0 else n
def df (n : Int) : Int := if 0 < DA n % 65535 then DA n + 5 * (DA n / 65535 + 1) + 5 else DA n + 5 * (DA n / 65535) + 5
end Go.aO
namespace Go.aO
open Go.aj Go.af Go.ab
structure Rq (ls ds o : List Int) (mo : Int) (z : St) (a : Nat) (out : List Int) : Prop where
  AD : iA o mo ab.start z
  at_ : z.at_ = a
  out : z.out = out
  k1 : ¬ z.kind = -1
  k2 : ¬ z.kind = 0
  aB : z.aB = 0
  ended : z.ended = false
  last : z.last = true
  lits : z.lits = ls
  eO : z.eO = ds
section
variable {ls ds bs o u r out : List Int} {mo y : Int} {z : St} {t : ef}
end
end Go.aO
namespace Go.aO
open Go.aj Go.af Go.ab
end Go.aO
namespace Go.aO
open Go.aj Go.af Go.ab
section
variable {B : List Int} {b : Int}
def SG (B : List Int) (b : Int) : Prop := ∀ i, i < B.length → B.getD i 0 = b
end
end Go.aO
namespace Go.aO
open Go.aj Go.af Go.ab
def S3 (x : Int) : Int := IntKind.u32.wrap (IntKind.u32.wrap (x * 1664525) + 1013904223)
def SJ (x : Int) : Int := IntKind.u8.wrap (x.fdiv (2 ^ (min (24 : Int).toNat IntKind.u32.bits)))
structure Gd (B : List Int) : Prop where
  zb : (n7 B).length ≤ 30000000
  s7 : au (n7 B)
  res : jW (n7 B) (B.length : Int) (B, ((n7 B).length : Int), 0)
  df : ((n7 B).length : Int) ≤ (B.length : Int) + 5 * (((B.length : Int) + 65534) / 65535) + 5
theorem au.snoc {l : List Int} {y : Int} (h : au l) (hy : 0 ≤ y ∧ y < 256) : au (l ++ [y]) := fun x hx => by
  rcases List.mem_append.1 hx with hx | hx
  · exact h x hx
  · rw [List.mem_singleton.1 hx]; exact hy
end Go.aO
namespace Go.aO
open Go.aj
theorem au.app {a b : List Int} (h : au a) (k : au b) : au (a ++ b) := fun x hx => by
  rcases List.mem_append.1 hx with hx | hx
  · exact h x hx
  · exact k x hx
end Go.aO
namespace Go.aO
open Go.aj Go.ab
theorem iQ : au [] := fun x hx => by cases hx
end Go.aO
namespace Go.aO
end Go.aO
namespace Go.aJ
open Go.aj Go.ab
theorem sD {x : Int} (h : 0 ≤ x ∧ x < 256) : ∃ k : Fin 256, x = ((k.val : Nat) : Int) := ⟨⟨x.toNat, by omega⟩, by simp only; omega⟩
theorem DE : ∀ k : Fin 256, IntKind.i64.wrap ((BitVec.ofInt IntKind.i64.bits ((k.val : Nat) : Int) &&& BitVec.ofInt IntKind.i64.bits 15).toNat : Int) = ((k.val : Nat) : Int) % 16 := by decide +kernel
theorem BB : ∀ k : Fin 256, IntKind.i64.wrap ((BitVec.ofInt IntKind.i64.bits ((k.val : Nat) : Int) &&& BitVec.ofInt IntKind.i64.bits 32).toNat : Int) = 32 * (((k.val : Nat) : Int) / 32 % 2) := by decide +kernel
theorem tP {x : Int} (h : 0 ≤ x ∧ x < 256) : IntKind.i64.wrap ((BitVec.ofInt IntKind.i64.bits x &&& BitVec.ofInt IntKind.i64.bits 15).toNat : Int) = x % 16 := by obtain ⟨k, rfl⟩ := sD h; exact DE k
theorem Gp {x : Int} (h : 0 ≤ x ∧ x < 256) : IntKind.i64.wrap ((BitVec.ofInt IntKind.i64.bits x &&& BitVec.ofInt IntKind.i64.bits 32).toNat : Int) = 32 * (x / 32 % 2) := by obtain ⟨k, rfl⟩ := sD h; exact BB k
theorem GN {x : Int} (h : 0 ≤ x) : x.fdiv (2 ^ (min (4 : Int).toNat IntKind.i64.bits)) = x / 16 := by rw [Int.fdiv_eq_ediv_of_nonneg _ (by decide)]; rfl
theorem DR {a b n : Nat} (hb : b < 2 ^ n) : (a * 2 ^ n) ||| b = a * 2 ^ n + b := by
  have := Nat.shiftLeft_add_eq_or_of_lt hb a
  rw [Nat.shiftLeft_eq] at this
  exact this.symm
theorem wrap32 {n : Int} (h1 : 0 ≤ n) (h2 : n < 4294967296) : IntKind.u32.wrap n = n := by
  have e : IntKind.u32.wrap n = n % 4294967296 := rfl
  rw [e]; omega
theorem wrap64 {n : Int} (h1 : 0 ≤ n) (h2 : n < 4294967296) : IntKind.i64.wrap n = n := Go.Sl.gF (by omega) (by omega)
theorem Lz {x y u : Int} {n : Nat} (hx : x = u * 2 ^ n) (hu : 0 ≤ u) (hy : 0 ≤ y ∧ y < 2 ^ n) (h : x + y < 4294967296) : IntKind.u32.wrap ((BitVec.ofInt IntKind.u32.bits x ||| BitVec.ofInt IntKind.u32.bits y).toNat : Int) = x + y := by
  obtain ⟨a, rfl⟩ : ∃ a : Nat, u = (a : Int) := ⟨u.toNat, by omega⟩
  obtain ⟨b, rfl⟩ : ∃ b : Nat, y = (b : Int) := ⟨y.toNat, by omega⟩
  have e : IntKind.u32.bits = 32 := rfl
  have hb : b < 2 ^ n := by have := hy.2; exact_mod_cast this
  have hx2 : x = ((a * 2 ^ n : Nat) : Int) := by rw [hx]; push_cast; rfl
  subst hx2
  rw [e, BitVec.toNat_or, eF, eF, Nat.mod_eq_of_lt (by omega), Nat.mod_eq_of_lt (by omega), DR hb, wrap32 (by omega) (by omega)]
  omega
theorem qa {x y u : Int} {n : Nat} (hx : x = u * 2 ^ n) (hu : 0 ≤ u) (hy : 0 ≤ y ∧ y < 2 ^ n) (h : x + y < 4294967296) : IntKind.i64.wrap ((BitVec.ofInt IntKind.i64.bits x ||| BitVec.ofInt IntKind.i64.bits y).toNat : Int) = x + y := by
  obtain ⟨a, rfl⟩ : ∃ a : Nat, u = (a : Int) := ⟨u.toNat, by omega⟩
  obtain ⟨b, rfl⟩ : ∃ b : Nat, y = (b : Int) := ⟨y.toNat, by omega⟩
  have e : IntKind.i64.bits = 64 := rfl
  have hb : b < 2 ^ n := by have := hy.2; exact_mod_cast this
  have hx2 : x = ((a * 2 ^ n : Nat) : Int) := by rw [hx]; push_cast; rfl
  subst hx2
  rw [e, BitVec.toNat_or, eF, eF, Nat.mod_eq_of_lt (by omega), Nat.mod_eq_of_lt (by omega), DR hb, wrap64 (by omega) (by omega)]
  omega
theorem wW {x r : Int} {n : Nat} {d : Int} (hd : d = (n : Int)) (hn : n ≤ 32) (hr : r = x * 2 ^ n) (h0 : 0 ≤ r) (h1 : r < 4294967296) : IntKind.i64.wrap (x * 2 ^ (min d.toNat IntKind.i64.bits)) = r := by
  have e : min d.toNat IntKind.i64.bits = n := by
    have : IntKind.i64.bits = 64 := rfl
    omega
  rw [e, ← hr]; exact wrap64 h0 h1
theorem LO {x r : Int} {n : Nat} {d : Int} (hd : d = (n : Int)) (hn : n ≤ 32) (hr : r = x * 2 ^ n) (h0 : 0 ≤ r) (h1 : r < 4294967296) : IntKind.u32.wrap (x * 2 ^ (min d.toNat IntKind.u32.bits)) = r := by
  have e : min d.toNat IntKind.u32.bits = n := by
    have : IntKind.u32.bits = 32 := rfl
    omega
  rw [e, ← hr]; exact wrap32 h0 h1
theorem Aj {x : Int} {n : Nat} {d : Int} (hd : d = (n : Int)) (hn : n ≤ 32) : x.fdiv (2 ^ (min d.toNat IntKind.u32.bits)) = x / 2 ^ n := by
  have e : min d.toNat IntKind.u32.bits = n := by
    have : IntKind.u32.bits = 32 := rfl
    omega
  rw [e, Int.fdiv_eq_ediv_of_nonneg _ (Int.le_of_lt (Int.pow_pos (by decide)))]
def pJ (s : Int × Int) (c : Int) : Int × Int := ((s.1 + c) % 65521, (s.2 + (s.1 + c) % 65521) % 65521)
def fp (l : List Int) : Int × Int := l.foldl pJ (1, 0)
theorem qX : fp [] = (1, 0) := rfl
theorem Es (l : List Int) (c : Int) : fp (l ++ [c]) = pJ (fp l) c := by simp [fp]
theorem o8 {l : List Int} {i : Nat} (h : i < l.length) : fp (l.take (i + 1)) = pJ (fp (l.take i)) (l.getD i 0) := by rw [ab.kr h, Es]
theorem Li (s : Int × Int) (c : Int) : (0 ≤ (pJ s c).1 ∧ (pJ s c).1 < 65521) ∧ 0 ≤ (pJ s c).2 ∧ (pJ s c).2 < 65521 := by unfold pJ; simp only; omega
theorem IF (l : List Int) : ∀ s : Int × Int, ((0 ≤ s.1 ∧ s.1 < 65521) ∧ 0 ≤ s.2 ∧ s.2 < 65521) → (0 ≤ (l.foldl pJ s).1 ∧ (l.foldl pJ s).1 < 65521) ∧ 0 ≤ (l.foldl pJ s).2 ∧ (l.foldl pJ s).2 < 65521 := by
  induction l with
  | nil => exact fun s h => h
  | cons a l ih => exact fun s h => ih _ (Li s a)
theorem qk (l : List Int) : (0 ≤ (fp l).1 ∧ (fp l).1 < 65521) ∧ 0 ≤ (fp l).2 ∧ (fp l).2 < 65521 := IF l _ (by decide)
def gi (l : List Int) : Int := (fp l).2 * 65536 + (fp l).1
theorem ye (l : List Int) : 0 ≤ gi l ∧ gi l < 4294967296 := by have := qk l; unfold gi; omega
def kF (l : List Int) : List Int := [gi l / 16777216, gi l / 65536 % 256, gi l / 256 % 256, gi l % 256]
theorem rE (l : List Int) : (kF l).length = 4 := rfl
theorem n5 (l : List Int) : au (kF l) := fun x hx => by
  have := ye l
  simp only [kF, List.mem_cons, List.not_mem_nil, or_false] at hx
  rcases hx with rfl | rfl | rfl | rfl <;> omega
def dY (l : List Int) : Int := l.getD 0 0 * 16777216 + l.getD 1 0 * 65536 + l.getD 2 0 * 256 + l.getD 3 0
def Hd (a b : Int) : Prop := a % 16 = 8 ∧ a / 16 ≤ 7 ∧ (a * 256 + b) % 31 = 0 ∧ 32 * (b / 32 % 2) = 0
instance (a b : Int) : Decidable (Hd a b) := by unfold Hd; infer_instance
theorem NT (a b : Int) : ¬ a % 16 = 8 ∨ (a % 16 = 8 ∧ ¬ a / 16 ≤ 7) ∨ (a % 16 = 8 ∧ a / 16 ≤ 7 ∧ ¬ (a * 256 + b) % 31 = 0) ∨ (a % 16 = 8 ∧ a / 16 ≤ 7 ∧ (a * 256 + b) % 31 = 0 ∧ ¬ 32 * (b / 32 % 2) = 0) ∨ (a % 16 = 8 ∧ a / 16 ≤ 7 ∧ (a * 256 + b) % 31 = 0 ∧ 32 * (b / 32 % 2) = 0) := by omega
def fin (D : List Int) (r : List Int × Int × Int) : List Int × Int :=
  if ¬ r.2.2 = 0 then ([], r.2.2) else if D.length - r.2.1.toNat < 4 then ([], 2) else if 4 < D.length - r.2.1.toNat then ([], 4) else if D.drop r.2.1.toNat = kF r.1 then (r.1, 0) else ([], 5)
def m7 (B : List Int) (mo : Int) (q : List Int × Int) : Prop :=
  (B.length < 6 ∧ q = ([], 2)) ∨ (6 ≤ B.length ∧ ¬ Hd (B.getD 0 0) (B.getD 1 0) ∧ q = ([], 4)) ∨ (6 ≤ B.length ∧ Hd (B.getD 0 0) (B.getD 1 0) ∧ ∃ r, jW (B.drop 2) mo r ∧ q = fin (B.drop 2) r)
theorem eu {B : List Int} (h : au B) (n : Nat) : au (B.drop n) := fun x hx => h x (List.mem_of_mem_drop hx)
theorem MV {B : List Int} {mo : Int} (hB : au B) {q : List Int × Int × Int} (h : jW B mo q) : au q.1 ∧ 0 ≤ q.2.1 ∧ q.2.1 ≤ B.length ∧ (q.1 = [] ∨ (q.1.length : Int) ≤ mo) := by
  rcases h with ⟨_, rfl⟩ | ⟨h0, o, ho, rfl⟩
  · exact ⟨fun x hx => by (cases hx), by decide, by simp, .inl rfl⟩
  · cases o with
    | error e => exact ⟨fun x hx => by (cases hx), by simp [Ou], by simp [Ou], .inl rfl⟩
    | ok p =>
      obtain ⟨x, n⟩ := p
      obtain ⟨h1, h2, h3⟩ := C6 hB ho (pc (by omega)) x n rfl
      exact ⟨h3, by simp [Ou], by simp only [Ou]; omega, .inr h1⟩
end Go.aJ
namespace Go.aJ
open Go.aj Go.ab Go.aO
theorem m7.ways {B : List Int} {mo : Int} {q : List Int × Int} (hB : au B) (hm : mo < 500000000) (h : m7 B mo q) :
    (B.length < 6 ∧ q = ([], 2)) ∨ (6 ≤ B.length ∧ ¬ Hd (B.getD 0 0) (B.getD 1 0) ∧ q = ([], 4)) ∨
    (∃ e, 6 ≤ B.length ∧ Hd (B.getD 0 0) (B.getD 1 0) ∧ jW (B.drop 2) mo ([], ((0 : Nat) : Int), e) ∧ ¬ e = 0 ∧ q = ([], e)) ∨
    (∃ (x : List Int) (n : Nat), 6 ≤ B.length ∧ Hd (B.getD 0 0) (B.getD 1 0) ∧ jW (B.drop 2) mo (x, (n : Int), 0) ∧ au x ∧ x.length < 500000000 ∧ n ≤ B.length - 2 ∧ B.length - (2 + n) < 4 ∧ q = ([], 2)) ∨
    (∃ (x : List Int) (n : Nat), 6 ≤ B.length ∧ Hd (B.getD 0 0) (B.getD 1 0) ∧ jW (B.drop 2) mo (x, (n : Int), 0) ∧ au x ∧ x.length < 500000000 ∧ n ≤ B.length - 2 ∧ 4 < B.length - (2 + n) ∧ q = ([], 4)) ∨
    (∃ (x : List Int) (n : Nat), 6 ≤ B.length ∧ Hd (B.getD 0 0) (B.getD 1 0) ∧ jW (B.drop 2) mo (x, (n : Int), 0) ∧ au x ∧ x.length < 500000000 ∧ n ≤ B.length - 2 ∧ B.length - (2 + n) = 4 ∧ ¬ B.drop (2 + n) = kF x ∧ q = ([], 5)) ∨
    (∃ (x : List Int) (n : Nat), 6 ≤ B.length ∧ Hd (B.getD 0 0) (B.getD 1 0) ∧ jW (B.drop 2) mo (x, (n : Int), 0) ∧ au x ∧ x.length < 500000000 ∧ n ≤ B.length - 2 ∧ B.length - (2 + n) = 4 ∧ B.drop (2 + n) = kF x ∧ q = (x, 0)) := by
  rcases h with h | h | ⟨h6, hh, ⟨x, n, e⟩, hr, hq⟩
  · exact .inl h
  · exact .inr (.inl h)
  · obtain ⟨i1, i2, i3, i4⟩ := MV (eu hB 2) hr
    simp only [List.length_drop] at i1 i2 i3 i4
    have hxl : x.length < 500000000 := by
      rcases i4 with h | h
      · rw [h]; decide
      · omega
    have hez : ¬ e = 0 → x = [] ∧ n = 0 := fun he => by
      rcases hr with ⟨_, h⟩ | ⟨_, o, _, h⟩
      · cases h; exact ⟨rfl, rfl⟩
      · cases o
        · cases h; exact ⟨rfl, rfl⟩
        · cases h; exact absurd rfl he
    obtain ⟨k, rfl⟩ : ∃ k : Nat, n = (k : Int) := ⟨n.toNat, by omega⟩
    unfold fin at hq
    simp only [List.length_drop, List.drop_drop, Int.toNat_natCast] at hq
    split at hq
    · rename_i h1
      obtain ⟨rfl, h2⟩ := hez h1
      obtain rfl : k = 0 := by omega
      exact .inr (.inr (.inl ⟨_, h6, hh, hr, h1, hq⟩))
    · rename_i h1
      obtain rfl : e = 0 := by omega
      split at hq
      · rename_i h2; exact .inr (.inr (.inr (.inl ⟨_, _, h6, hh, hr, i1, hxl, by omega, by omega, hq⟩)))
      · split at hq
        · rename_i h2 h3; exact .inr (.inr (.inr (.inr (.inl ⟨_, _, h6, hh, hr, i1, hxl, by omega, by omega, hq⟩))))
        · split at hq
          · rename_i h2 h3 h4; exact .inr (.inr (.inr (.inr (.inr (.inr ⟨_, _, h6, hh, hr, i1, hxl, by omega, by omega, h4, hq⟩)))))
          · rename_i h2 h3 h4; exact .inr (.inr (.inr (.inr (.inr (.inl ⟨_, _, h6, hh, hr, i1, hxl, by omega, by omega, h4, hq⟩)))))
theorem m7.PT {B : List Int} {mo : Int} {q : List Int × Int} (hB : au B) (hm : mo < 500000000) (h : m7 B mo q) :
    (B.length < 6 ∧ q = ([], 2)) ∨ (6 ≤ B.length ∧ ¬ Hd (B.getD 0 0) (B.getD 1 0) ∧ q = ([], 4)) ∨
    (∃ (x : List Int) (n : Nat) (e : Int), 6 ≤ B.length ∧ Hd (B.getD 0 0) (B.getD 1 0) ∧ jW (B.drop 2) mo (x, (n : Int), e) ∧ au x ∧ x.length < 500000000 ∧ n ≤ B.length - 2 ∧
      ((¬ e = 0 ∧ q = ([], e)) ∨ (e = 0 ∧ B.length - (2 + n) < 4 ∧ q = ([], 2)) ∨ (e = 0 ∧ 4 < B.length - (2 + n) ∧ q = ([], 4)) ∨ (e = 0 ∧ B.length - (2 + n) = 4 ∧ ¬ B.drop (2 + n) = kF x ∧ q = ([], 5)) ∨ (e = 0 ∧ B.length - (2 + n) = 4 ∧ B.drop (2 + n) = kF x ∧ q = (x, 0)))) := by
  rcases h.ways hB hm with h | h | ⟨e, a, b, c, d, r⟩ | ⟨x, n, a, b, c, d, f, g, r⟩ | ⟨x, n, a, b, c, d, f, g, r⟩ | ⟨x, n, a, b, c, d, f, g, r⟩ | ⟨x, n, a, b, c, d, f, g, r⟩
  · exact .inl h
  · exact .inr (.inl h)
  · exact .inr (.inr ⟨[], 0, e, a, b, c, fun x hx => (by cases hx), by decide, by omega, .inl ⟨d, r⟩⟩)
  · exact .inr (.inr ⟨x, n, 0, a, b, c, d, f, g, .inr (.inl ⟨rfl, r⟩)⟩)
  · exact .inr (.inr ⟨x, n, 0, a, b, c, d, f, g, .inr (.inr (.inl ⟨rfl, r⟩))⟩)
  · exact .inr (.inr ⟨x, n, 0, a, b, c, d, f, g, .inr (.inr (.inr (.inl ⟨rfl, r⟩)))⟩)
  · exact .inr (.inr ⟨x, n, 0, a, b, c, d, f, g, .inr (.inr (.inr (.inr ⟨rfl, r⟩)))⟩)
theorem aY {l : List Int} (h : au l) : ∀ x ∈ l, 0 ≤ x ∧ x < 256 := h
def zS (B : List Int) : List Int := [120, 1] ++ n7 B ++ kF B
theorem sJ {a : Int} {l : List Int} (h : 0 ≤ a ∧ a < 256) (k : au l) : au (a :: l) := fun x hx => by
  rcases List.mem_cons.1 hx with rfl | hx
  · exact h
  · exact k x hx
theorem Gb : Hd 120 1 := by unfold Hd; decide
end Go.aJ
namespace Go.aa
open Go.aj
def eE (a b : Int) : Int := ((a.toNat ^^^ b.toNat : Nat) : Int)
theorem pL {a b : Int} {n : Nat} (ha : 0 ≤ a ∧ a < 2 ^ n) (hb : 0 ≤ b ∧ b < 2 ^ n) : 0 ≤ eE a b ∧ eE a b < 2 ^ n := by
  have h1 : a.toNat < 2 ^ n := by have : ((a.toNat : Nat) : Int) < ((2 ^ n : Nat) : Int) := by push_cast; omega
                                  omega
  have h2 : b.toNat < 2 ^ n := by have : ((b.toNat : Nat) : Int) < ((2 ^ n : Nat) : Int) := by push_cast; omega
                                  omega
  have h := Nat.xor_lt_two_pow h1 h2
  refine ⟨Int.natCast_nonneg _, ?_⟩
  have : ((a.toNat ^^^ b.toNat : Nat) : Int) < ((2 ^ n : Nat) : Int) := by omega
  simpa [eE] using this
theorem vU {a b : Int} (ha : 0 ≤ a ∧ a < 4294967296) (hb : 0 ≤ b ∧ b < 4294967296) : IntKind.u32.wrap ((BitVec.ofInt IntKind.u32.bits a ^^^ BitVec.ofInt IntKind.u32.bits b).toNat : Int) = eE a b := by
  obtain ⟨x, rfl⟩ : ∃ x : Nat, a = (x : Int) := ⟨a.toNat, by omega⟩
  obtain ⟨y, rfl⟩ : ∃ y : Nat, b = (y : Int) := ⟨b.toNat, by omega⟩
  have e : IntKind.u32.bits = 32 := rfl
  have h := pL (n := 32) ha hb
  rw [e, BitVec.toNat_xor, eF, eF, Nat.mod_eq_of_lt (by omega), Nat.mod_eq_of_lt (by omega)]
  simp only [eE, Int.toNat_natCast] at h ⊢
  exact aJ.wrap32 h.1 (by have := h.2; omega)
theorem QC {a b : Int} (ha : 0 ≤ a ∧ a < 256) (hb : 0 ≤ b ∧ b < 256) : IntKind.u8.wrap ((BitVec.ofInt IntKind.u8.bits a ^^^ BitVec.ofInt IntKind.u8.bits b).toNat : Int) = eE a b := by
  obtain ⟨x, rfl⟩ : ∃ x : Nat, a = (x : Int) := ⟨a.toNat, by omega⟩
  obtain ⟨y, rfl⟩ : ∃ y : Nat, b = (y : Int) := ⟨b.toNat, by omega⟩
  have e : IntKind.u8.bits = 8 := rfl
  have h := pL (n := 8) ha hb
  rw [e, BitVec.toNat_xor, eF, eF, Nat.mod_eq_of_lt (by omega), Nat.mod_eq_of_lt (by omega)]
  simp only [eE, Int.toNat_natCast] at h ⊢
  exact Sl.kc h.1 (by have := h.2; omega)
theorem vF {a : Int} (ha : 0 ≤ a ∧ a < 4294967296) : IntKind.u32.wrap ((BitVec.ofInt IntKind.u32.bits 4294967295 ^^^ BitVec.ofInt IntKind.u32.bits a).toNat : Int) = 4294967295 - a := by
  obtain ⟨x, rfl⟩ : ∃ x : Nat, a = (x : Int) := ⟨a.toNat, by omega⟩
  have e : IntKind.u32.bits = 32 := rfl
  have e1 : BitVec.ofInt 32 4294967295 = BitVec.allOnes 32 := by decide
  rw [e, e1, BitVec.xor_comm, BitVec.xor_allOnes, BitVec.toNat_not, eF, Nat.mod_eq_of_lt (by omega), aJ.wrap32 (by omega) (by omega)]
  omega
def qt (x : Nat) : Nat := if x % 2 = 1 then (x / 2) ^^^ 3988292384 else x / 2
def kW : Nat → Nat → Nat
  | 0, x => x
  | k + 1, x => qt (kW k x)
theorem El (a b : Nat) : (a ^^^ b) % 2 = (a % 2 + b % 2) % 2 := by
  have h := Nat.testBit_xor a b 0
  simp only [Nat.testBit_zero] at h
  have ha : a % 2 = 0 ∨ a % 2 = 1 := by omega
  have hb : b % 2 = 0 ∨ b % 2 = 1 := by omega
  have hc : (a ^^^ b) % 2 = 0 ∨ (a ^^^ b) % 2 = 1 := by omega
  rcases ha with ha | ha <;> rcases hb with hb | hb <;> rcases hc with hc | hc <;> rw [ha, hb, hc] at h <;> first | omega | (exfalso; revert h; decide)
theorem D3 (a b : Nat) : (a ^^^ b) / 2 = (a / 2) ^^^ (b / 2) := by
  refine Nat.eq_of_testBit_eq fun i => ?_
  simp only [Nat.testBit_div_two, Nat.testBit_xor]
theorem Lu (a b : Nat) : qt (a ^^^ b) = qt a ^^^ qt b := by
  have h2 := El a b
  have ha : a % 2 = 0 ∨ a % 2 = 1 := by omega
  have hb : b % 2 = 0 ∨ b % 2 = 1 := by omega
  unfold qt
  rw [D3]
  rcases ha with ha | ha <;> rcases hb with hb | hb <;> rw [h2, ha, hb]
  · simp
  · simp [Nat.xor_assoc]
  · simp only [Nat.reduceAdd, Nat.reduceMod, if_pos, if_neg, Nat.zero_ne_one, not_false_eq_true]
    rw [Nat.xor_assoc, Nat.xor_comm (b / 2), ← Nat.xor_assoc]
  · simp only [Nat.reduceAdd, Nat.reduceMod, if_pos, Nat.zero_ne_one, if_false]
    rw [Nat.xor_assoc, Nat.xor_comm 3988292384, Nat.xor_assoc, Nat.xor_self, Nat.xor_zero]
theorem MT (k a b : Nat) : kW k (a ^^^ b) = kW k a ^^^ kW k b := by
  induction k with
  | zero => rfl
  | succ k ih => simp only [kW, ih, Lu]
theorem Ix (a : Nat) : qt (2 * a) = a := by unfold qt; rw [if_neg (by omega)]; omega
theorem OO (h : Nat) : kW 8 (256 * h) = h := by
  have e : ∀ k m : Nat, kW k (2 ^ k * m) = m := by
    intro k
    induction k with
    | zero => intro m; simp [kW]
    | succ k ih => intro m; rw [kW, Nat.pow_succ, Nat.mul_assoc, ih, Ix]
  exact e 8 h
theorem E9 (s : Nat) : s = (256 * (s / 256)) ^^^ (s % 256) := by
  have h := Nat.two_pow_add_eq_or_of_lt (i := 8) (b := s % 256) (by omega) (s / 256)
  have h2 : (2 ^ 8 * (s / 256)) ^^^ (s % 256) = (2 ^ 8 * (s / 256)) ||| (s % 256) := by
    refine Nat.eq_of_testBit_eq fun i => ?_
    rw [Nat.testBit_xor, Nat.testBit_or]
    rcases Nat.lt_or_ge i 8 with hi | hi
    · rw [Nat.testBit_two_pow_mul, decide_eq_false (by omega)]; simp
    · have : (s % 256).testBit i = false := Nat.testBit_lt_two_pow (Nat.lt_of_lt_of_le (by omega : s % 256 < 2 ^ 8) (Nat.pow_le_pow_right (by decide) hi))
      rw [this]; simp
  have e : 2 ^ 8 * (s / 256) = 256 * (s / 256) := by omega
  rw [e] at h h2
  omega
theorem Bt (s c : Nat) (hc : c < 256) : kW 8 (s ^^^ c) = kW 8 ((s % 256) ^^^ c) ^^^ (s / 256) := by
  conv => lhs; rw [E9 s]
  rw [Nat.xor_assoc, MT, OO, Nat.xor_comm]
end Go.aa
namespace Go.aa
open Go.aj
theorem OJ {x : Nat} (h : x < 4294967296) : qt x < 4294967296 := by
  unfold qt
  split
  · exact Nat.xor_lt_two_pow (n := 32) (by omega) (by decide)
  · omega
theorem AE {x : Nat} (h : x < 4294967296) : ∀ k, kW k x < 4294967296
  | 0 => h
  | k + 1 => OJ (AE h k)
def gL (x : Int) : Int := ((kW 8 x.toNat : Nat) : Int)
theorem yH {x : Int} (h : 0 ≤ x ∧ x < 4294967296) : 0 ≤ gL x ∧ gL x < 4294967296 := by
  have := AE (x := x.toNat) (by omega) 8
  unfold gL; omega
theorem BH {s c : Int} (hs : 0 ≤ s) (hc : 0 ≤ c ∧ c < 256) : gL (eE s c) = eE (gL (eE (s % 256) c)) (s / 256) := by
  obtain ⟨a, rfl⟩ : ∃ a : Nat, s = (a : Int) := ⟨s.toNat, by omega⟩
  obtain ⟨b, rfl⟩ : ∃ b : Nat, c = (b : Int) := ⟨c.toNat, by omega⟩
  have e1 : ((a : Int) % 256).toNat = a % 256 := by omega
  have e2 : ((a : Int) / 256).toNat = a / 256 := by omega
  simp only [gL, eE, Int.toNat_natCast, e1, e2]
  rw [Bt a b (by omega)]
def gh (s : Int) (l : List Int) : Int := l.foldl (fun s c => gL (eE s c)) s
theorem oe : ∀ {l : List Int} {s : Int}, au l → 0 ≤ s ∧ s < 4294967296 → 0 ≤ gh s l ∧ gh s l < 4294967296
  | [], s, _, h => h
  | c :: l, s, hl, h => by
    have hc := hl c (by simp)
    exact oe (l := l) (fun x hx => hl x (by simp [hx])) (yH (by have := pL (n := 32) (a := s) (b := c) (by omega) (by omega); omega))
theorem xG {l : List Int} {s : Int} {i : Nat} (h : i < l.length) : gh s (l.take (i + 1)) = gL (eE (gh s (l.take i)) (l.getD i 0)) := by
  rw [ab.kr h]; simp [gh]
def qB (s : Int) (l : List Int) : Int := 4294967295 - gh (4294967295 - s) l
theorem tY {s : Int} {l : List Int} (hs : 0 ≤ s ∧ s < 4294967296) (hl : au l) : 0 ≤ qB s l ∧ qB s l < 4294967296 := by
  have := oe (l := l) (s := 4294967295 - s) hl (by omega)
  unfold qB; omega
structure Ch where
  k : List Int
  d : List Int
def ic (k d : List Int) : Int := qB (qB 0 k) d
def kI (c : Int) : Prop := (97 ≤ c ∧ c ≤ 122) ∨ (65 ≤ c ∧ c ≤ 90)
instance (c : Int) : Decidable (kI c) := by unfold kI; infer_instance
def eh (k : List Int) : Prop := k.length = 4 ∧ ∀ c ∈ k, kI c
instance (k : List Int) : Decidable (eh k) := by unfold eh; infer_instance
def cS : List Int := [73, 72, 68, 82]
def a7 : List Int := [80, 76, 84, 69]
def bA : List Int := [116, 82, 78, 83]
def bQ : List Int := [73, 68, 65, 84]
def bV : List Int := [73, 69, 78, 68]
def ff : List Int := [137, 80, 78, 71, 13, 10, 26, 10]
def first (L : List Int) : Except Int Ch :=
  if L.length < 12 then .error 2
  else if 2147483647 < aJ.dY L ∨ ¬ eh ((L.drop 4).take 4) then .error 4
  else if (L.length : Int) - 12 < aJ.dY L then .error 2
  else if aJ.dY (L.drop (8 + (aJ.dY L).toNat)) = ic ((L.drop 4).take 4) ((L.drop 8).take (aJ.dY L).toNat) then .ok ⟨(L.drop 4).take 4, (L.drop 8).take (aJ.dY L).toNat⟩
  else .error 5
theorem u9 {L : List Int} (h : au L) : 0 ≤ aJ.dY L ∧ aJ.dY L < 4294967296 := by
  have h0 := h.get 0; have h1 := h.get 1; have h2 := h.get 2; have h3 := h.get 3
  unfold aJ.dY; omega
theorem MF {L : List Int} (hL : au L) : (L.length < 12 ∧ first L = .error 2) ∨ ∃ n : Nat, 12 ≤ L.length ∧ aJ.dY L = (n : Int) ∧ n < 4294967296 ∧
    ((2147483647 < n ∧ first L = .error 4) ∨ (n ≤ 2147483647 ∧ ¬ eh ((L.drop 4).take 4) ∧ first L = .error 4) ∨ (n ≤ 2147483647 ∧ eh ((L.drop 4).take 4) ∧ L.length < 12 + n ∧ first L = .error 2) ∨
     (12 + n ≤ L.length ∧ eh ((L.drop 4).take 4) ∧ aJ.dY (L.drop (8 + n)) = ic ((L.drop 4).take 4) ((L.drop 8).take n) ∧ first L = .ok ⟨(L.drop 4).take 4, (L.drop 8).take n⟩ ∧ n ≤ 2147483647) ∨
     (12 + n ≤ L.length ∧ eh ((L.drop 4).take 4) ∧ ¬ aJ.dY (L.drop (8 + n)) = ic ((L.drop 4).take 4) ((L.drop 8).take n) ∧ first L = .error 5 ∧ n ≤ 2147483647)) := by
  rcases Nat.lt_or_ge L.length 12 with h | h
  · exact .inl ⟨h, by unfold first; rw [if_pos h]⟩
  · right
    have hn := u9 hL
    obtain ⟨n, e⟩ : ∃ n : Nat, aJ.dY L = (n : Int) := ⟨(aJ.dY L).toNat, by omega⟩
    refine ⟨n, h, e, by omega, ?_⟩
    unfold first
    rw [if_neg (by omega), e, Int.toNat_natCast]
    by_cases h1 : 2147483647 < n
    · exact .inl ⟨h1, by rw [if_pos (.inl (by omega))]⟩
    · by_cases h2 : eh ((L.drop 4).take 4)
      · rw [if_neg (by rintro (h | h); omega; exact h h2)]
        by_cases h3 : L.length < 12 + n
        · exact .inr (.inr (.inl ⟨by omega, h2, h3, by rw [if_pos (by omega)]⟩))
        · rw [if_neg (by omega)]
          by_cases h4 : aJ.dY (L.drop (8 + n)) = ic ((L.drop 4).take 4) ((L.drop 8).take n)
          · exact .inr (.inr (.inr (.inl ⟨by omega, h2, h4, by rw [if_pos h4], by omega⟩)))
          · exact .inr (.inr (.inr (.inr ⟨by omega, h2, h4, by rw [if_neg h4], by omega⟩)))
      · exact .inr (.inl ⟨by omega, h2, by rw [if_pos (.inr h2)]⟩)
def gy : Nat → List Int → List Ch → Except Int (List Ch)
  | 0, _, _ => .error 2
  | f + 1, L, l => match first L with
    | .error e => .error e
    | .ok c => if c.k = bV then (if L.length - (12 + c.d.length) = 0 then .ok (l ++ [c]) else .error 4) else gy f (L.drop (12 + c.d.length)) (l ++ [c])
def cut (B : List Int) : Except Int (List Ch) :=
  if 262144 < B.length then .error 3 else if B.length < 8 then .error 2 else if B.take 8 = ff then gy (B.length + 1) (B.drop 8) [] else .error 4
structure Wk where
  plte : Bool
  trns : Bool
  c4 : Bool
  kM : Bool
def gN (k : List Int) : Prop := eh k ∧ k.getD 0 0 ≤ 90
instance (k : List Int) : Decidable (gN k) := by unfold gN; infer_instance
def de (w : Wk) (c : Ch) : Wk × Bool :=
  if c.k = bQ then (⟨w.plte, w.trns, true, w.kM⟩, !w.kM)
  else if c.k = a7 then (if w.trns then (⟨w.plte, w.trns, w.c4, w.c4⟩, false) else (⟨true, w.trns, w.c4, w.c4⟩, !w.plte && !w.c4))
  else if c.k = bA then (⟨w.plte, true, w.c4, w.c4⟩, !w.trns && !w.c4)
  else (⟨w.plte, w.trns, w.c4, w.c4⟩, decide (eh c.k) && !decide (gN c.k))
def walk : List Ch → Wk → Option Wk
  | [], w => some w
  | c :: l, w => if (de w c).2 then walk l (de w c).1 else none
def dG (l : List Ch) : Bool :=
  decide (3 ≤ l.length) && (l.map Ch.k).getD 0 [] == cS && (l.map (·.d.length)).getD 0 0 == 13 && (l.map Ch.k).getD (l.length - 1) [] == bV && (l.map (·.d.length)).getD (l.length - 1) 0 == 0 &&
    (match walk ((l.drop 1).take (l.length - 2)) ⟨false, false, false, false⟩ with | some w => w.c4 | none => false)
end Go.aa
namespace Go.aa
open Go.aj
structure Od where
  iZ : Nat
  ends : Nat
  iW : Nat
  gH : Nat
  hI : Nat
def eJ (n i : Nat) (prev : List Int) (c : Ch) (s : Od) : Option Od :=
  if c.k = cS then (if 0 < i ∨ c.d.length ≠ 13 then none else some { s with iZ := s.iZ + 1 })
  else if c.k = bV then (if i + 1 < n ∨ 0 < c.d.length then none else some { s with ends := s.ends + 1 })
  else if c.k = bQ then (if 0 < s.hI ∧ prev ≠ bQ then none else some { s with hI := s.hI + 1 })
  else if c.k = a7 then (if 0 < s.hI ∨ 0 < s.gH then none else some { s with iW := s.iW + 1 })
  else if c.k = bA then (if 0 < s.hI then none else some { s with gH := s.gH + 1 })
  else if ¬ eh c.k ∨ gN c.k then none else some s
def rS (s : Od) : Bool := decide (s.iZ = 1) && decide (s.ends = 1) && decide (1 ≤ s.hI) && decide (s.iW ≤ 1) && decide (s.gH ≤ 1)
def lI (n : Nat) : Nat → List Int → List Ch → Od → Bool
  | _, _, [], s => rS s
  | i, prev, c :: l, s => match eJ n i prev c s with | none => false | some s2 => lI n (i + 1) c.k l s2
theorem Eh {n i : Nat} {prev : List Int} {c : Ch} {s s2 : Od} (h : eJ n i prev c s = some s2) : s.iW ≤ s2.iW ∧ s.gH ≤ s2.gH ∧ s.iZ ≤ s2.iZ ∧ (0 < i → s2.iZ = s.iZ) := by
  unfold eJ at h
  split at h
  · split at h
    · cases h
    · rename_i h1 h2; cases h; exact ⟨Nat.le_refl _, Nat.le_refl _, by simp, fun h => absurd (.inl h) h2⟩
  · split at h
    · split at h <;> cases h; simp
    · split at h
      · split at h <;> cases h; simp
      · split at h
        · split at h <;> cases h; simp
        · split at h
          · split at h <;> cases h; simp
          · split at h <;> cases h; simp
theorem tb {n : Nat} : ∀ {l : List Ch} {i : Nat} {prev : List Int} {s : Od}, (1 < s.iW ∨ 1 < s.gH ∨ (0 < i ∧ s.iZ = 0)) → lI n i prev l s = false
  | [], i, prev, s, h => by
    unfold lI rS
    rcases h with h | h | h
    · rw [decide_eq_false (p := s.iW ≤ 1) (by omega)]; simp
    · rw [decide_eq_false (p := s.gH ≤ 1) (by omega)]; simp
    · rw [decide_eq_false (p := s.iZ = 1) (by omega)]; simp
  | c :: l, i, prev, s, h => by
    unfold lI
    split
    · rfl
    · rename_i s2 h2
      have g := Eh h2
      refine tb ?_
      rcases h with h | h | h
      · exact .inl (by omega)
      · exact .inr (.inl (by omega))
      · exact .inr (.inr ⟨by omega, by rw [g.2.2.2 h.1]; exact h.2⟩)
def pW (l : List Ch) (w : Wk) : Bool :=
  (match walk (l.take (l.length - 1)) w with | some w => w.c4 | none => false) && (l.map Ch.k).getD (l.length - 1) [] == bV && (l.map (·.d.length)).getD (l.length - 1) 0 == 0
structure Wi (prev : List Int) (s : Od) (w : Wk) : Prop where
  iZ : s.iZ = 1
  ends : s.ends = 0
  plte : w.plte = decide (0 < s.iW)
  trns : w.trns = decide (0 < s.gH)
  c4 : w.c4 = decide (0 < s.hI)
  kM : w.kM = decide (0 < s.hI ∧ prev ≠ bQ)
  one : s.iW ≤ 1 ∧ s.gH ≤ 1
theorem BT {k : List Int} (h : k = cS ∨ k = bV) : eh k ∧ gN k := by
  rcases h with rfl | rfl <;> decide
theorem Da {c c2 : Ch} {l : List Ch} {w : Wk} : pW (c :: c2 :: l) w = (if (de w c).2 then pW (c2 :: l) (de w c).1 else false) := by
  unfold pW
  have e : (c :: c2 :: l).take ((c :: c2 :: l).length - 1) = c :: (c2 :: l).take ((c2 :: l).length - 1) := by simp
  have e4 : ((c :: c2 :: l).map Ch.k).getD ((c :: c2 :: l).length - 1) [] = ((c2 :: l).map Ch.k).getD ((c2 :: l).length - 1) [] := rfl
  have e5 : ((c :: c2 :: l).map (·.d.length)).getD ((c :: c2 :: l).length - 1) 0 = ((c2 :: l).map (·.d.length)).getD ((c2 :: l).length - 1) 0 := rfl
  rw [e, e4, e5, walk]
  cases h : (de w c).2
  · simp only [Bool.false_eq_true, if_false, Bool.false_and]
  · simp only [if_true]
theorem Ji {n i : Nat} {prev : List Int} {c : Ch} {s : Od} {w : Wk} (hi : 0 < i) (hn : i + 1 = n) (h : Wi prev s w) : lI n i prev [c] s = pW [c] w := by
  have hp := h.one
  have e : pW [c] w = (w.c4 && (c.k == bV) && (c.d.length == 0)) := by simp [pW, walk]
  rw [e, h.c4]
  unfold lI eJ
  by_cases h1 : c.k = cS
  · rw [if_pos h1, if_pos (.inl hi)]
    have : (c.k == bV) = false := by rw [h1]; decide
    simp [this]
  · rw [if_neg h1]
    by_cases h2 : c.k = bV
    · rw [if_pos h2]
      by_cases h3 : 0 < c.d.length
      · rw [if_pos (.inr h3)]
        have : (c.d.length == 0) = false := by simp; intro h; rw [h] at h3; simp at h3
        rw [this]; simp
      · rw [if_neg (by rintro (h | h); omega; exact h3 h)]
        simp only [lI, rS, h.iZ, h.ends]
        have e1 : (c.k == bV) = true := by rw [h2]; decide
        have e2 : (c.d.length == 0) = true := by simp; exact List.length_eq_zero_iff.1 (by omega)
        rw [e1, e2, decide_eq_true hp.1, decide_eq_true hp.2]
        simp
        omega
    · have e1 : (c.k == bV) = false := by simpa using h2
      rw [if_neg h2, e1]
      simp only [Bool.and_false, Bool.false_and]
      split
      · rfl
      · rename_i s2 hs
        have he : s2.ends = 0 := by
          have hend := h.ends
          split at hs
          · split at hs <;> cases hs; exact hend
          · split at hs
            · split at hs <;> cases hs; exact hend
            · split at hs
              · split at hs <;> cases hs; exact hend
              · split at hs <;> cases hs; exact hend
        simp [lI, rS, he]
theorem p9 {n : Nat} : ∀ {l : List Ch} {i : Nat} {prev : List Int} {s : Od} {w : Wk}, l ≠ [] → 0 < i → i + l.length = n → Wi prev s w → lI n i prev l s = pW l w
  | [], i, prev, s, w, h, _, _, _ => absurd rfl h
  | [c], i, prev, s, w, _, hi, hn, h => Ji hi (by simpa using hn) h
  | c :: c2 :: l, i, prev, s, w, _, hi, hn, h => by
    have hn2 : i + 1 + (c2 :: l).length = n := by simp only [List.length_cons] at hn ⊢; omega
    have hlt : i + 1 < n := by simp only [List.length_cons] at hn; omega
    have hp := h.one
    rw [Da]
    rw [lI]
    by_cases h1 : c.k = cS
    · have hc := BT (.inl h1)
      rw [show eJ n i prev c s = none by unfold eJ; rw [if_pos h1, if_pos (.inl hi)]]
      have : (de w c).2 = false := by
        unfold de
        rw [if_neg (by rw [h1]; decide), if_neg (by rw [h1]; decide), if_neg (by rw [h1]; decide)]
        simp [hc.1, hc.2]
      rw [this]; rfl
    by_cases h2 : c.k = bV
    · have hc := BT (.inr h2)
      rw [show eJ n i prev c s = none by unfold eJ; rw [if_neg h1, if_pos h2, if_pos (.inl hlt)]]
      have : (de w c).2 = false := by
        unfold de
        rw [if_neg (by rw [h2]; decide), if_neg (by rw [h2]; decide), if_neg (by rw [h2]; decide)]
        simp [hc.1, hc.2]
      rw [this]; rfl
    by_cases h3 : c.k = bQ
    · have e : de w c = (⟨w.plte, w.trns, true, w.kM⟩, !w.kM) := by unfold de; rw [if_pos h3]
      rw [e]
      by_cases h4 : 0 < s.hI ∧ prev ≠ bQ
      · rw [show eJ n i prev c s = none by unfold eJ; rw [if_neg h1, if_neg h2, if_pos h3, if_pos h4]]
        rw [h.kM, decide_eq_true h4]; rfl
      · rw [show eJ n i prev c s = some { s with hI := s.hI + 1 } by unfold eJ; rw [if_neg h1, if_neg h2, if_pos h3, if_neg h4]]
        rw [h.kM, decide_eq_false h4]
        simp only [Bool.not_false, if_true]
        refine p9 (by simp) (by omega) hn2 ⟨h.iZ, h.ends, h.plte, h.trns, by simp, ?_, hp⟩
        simp [h3]
    by_cases h4 : c.k = a7
    · by_cases h5 : 0 < s.hI ∨ 0 < s.gH
      · rw [show eJ n i prev c s = none by unfold eJ; rw [if_neg h1, if_neg h2, if_neg h3, if_pos h4, if_pos h5]]
        have : (de w c).2 = false := by
          unfold de
          rw [if_neg h3, if_pos h4, h.trns, h.c4]
          by_cases h6 : 0 < s.gH
          · simp [h6]
          · have h7 : 0 < s.hI := by omega
            simp [h6, h7]
        rw [this]; rfl
      · have h6 : ¬ 0 < s.gH := fun hh => h5 (.inr hh)
        have h7 : ¬ 0 < s.hI := fun hh => h5 (.inl hh)
        rw [show eJ n i prev c s = some { s with iW := s.iW + 1 } by unfold eJ; rw [if_neg h1, if_neg h2, if_neg h3, if_pos h4, if_neg h5]]
        have e : de w c = (⟨true, w.trns, w.c4, w.c4⟩, !w.plte && !w.c4) := by
          unfold de
          rw [if_neg h3, if_pos h4, h.trns]
          simp [h6]
        rw [e, h.plte, h.c4]
        by_cases h8 : 0 < s.iW
        · rw [show (!decide (0 < s.iW) && !decide (0 < s.hI)) = false by simp [h8]]
          simp only [Bool.false_eq_true, if_false]
          exact tb (.inl (by simp only; omega))
        · rw [show (!decide (0 < s.iW) && !decide (0 < s.hI)) = true by simp [h8, h7]]
          simp only [if_true]
          refine p9 (by simp) (by omega) hn2 ⟨h.iZ, h.ends, by simp, h.trns, by simp [h7], ?_, by simp only; omega, hp.2⟩
          simp [h7]
    by_cases h5 : c.k = bA
    · have e : de w c = (⟨w.plte, true, w.c4, w.c4⟩, !w.trns && !w.c4) := by unfold de; rw [if_neg h3, if_neg h4, if_pos h5]
      rw [e, h.trns, h.c4]
      by_cases h7 : 0 < s.hI
      · rw [show eJ n i prev c s = none by unfold eJ; rw [if_neg h1, if_neg h2, if_neg h3, if_neg h4, if_pos h5, if_pos h7]]
        simp [h7]
      · rw [show eJ n i prev c s = some { s with gH := s.gH + 1 } by unfold eJ; rw [if_neg h1, if_neg h2, if_neg h3, if_neg h4, if_pos h5, if_neg h7]]
        by_cases h8 : 0 < s.gH
        · rw [show (!decide (0 < s.gH) && !decide (0 < s.hI)) = false by simp [h8]]
          simp only [Bool.false_eq_true, if_false]
          exact tb (.inr (.inl (by simp only; omega)))
        · rw [show (!decide (0 < s.gH) && !decide (0 < s.hI)) = true by simp [h8, h7]]
          simp only [if_true]
          refine p9 (by simp) (by omega) hn2 ⟨h.iZ, h.ends, h.plte, by simp, by simp [h7], ?_, hp.1, by simp only; omega⟩
          simp [h7]
    · have e : de w c = (⟨w.plte, w.trns, w.c4, w.c4⟩, decide (eh c.k) && !decide (gN c.k)) := by unfold de; rw [if_neg h3, if_neg h4, if_neg h5]
      rw [e]
      by_cases h6 : ¬ eh c.k ∨ gN c.k
      · rw [show eJ n i prev c s = none by unfold eJ; rw [if_neg h1, if_neg h2, if_neg h3, if_neg h4, if_neg h5, if_pos h6]]
        have : (decide (eh c.k) && !decide (gN c.k)) = false := by
          rcases h6 with h | h <;> simp [h]
        simp [this]
      · rw [show eJ n i prev c s = some s by unfold eJ; rw [if_neg h1, if_neg h2, if_neg h3, if_neg h4, if_neg h5, if_neg h6]]
        have : (decide (eh c.k) && !decide (gN c.k)) = true := by
          have a : eh c.k := Classical.byContradiction fun hh => h6 (.inl hh)
          have b : ¬ gN c.k := fun hh => h6 (.inr hh)
          simp [a, b]
        simp only [this, if_true]
        refine p9 (by simp) (by omega) hn2 ⟨h.iZ, h.ends, h.plte, h.trns, h.c4, ?_, hp⟩
        rw [h.c4]
        have : c.k ≠ bQ := h3
        simp [this]
theorem Jj (l : List Ch) : lI l.length 0 [] l ⟨0, 0, 0, 0, 0⟩ = dG l := by
  match l with
  | [] => rfl
  | [c] =>
    have e : dG [c] = false := by simp [dG]
    rw [e]
    unfold lI
    split
    · rfl
    · rename_i s2 h
      unfold eJ at h
      simp only [lI, rS]
      split at h
      · split at h <;> cases h; simp
      · split at h
        · split at h <;> cases h; simp
        · split at h
          · split at h <;> cases h; simp
          · split at h
            · split at h <;> cases h; simp
            · split at h
              · split at h <;> cases h; simp
              · split at h <;> cases h; simp
  | c :: c2 :: l =>
    rw [lI]
    by_cases h1 : c.k = cS
    · by_cases h2 : c.d.length = 13
      · rw [show eJ (c :: c2 :: l).length 0 [] c ⟨0, 0, 0, 0, 0⟩ = some ⟨1, 0, 0, 0, 0⟩ by unfold eJ; rw [if_pos h1, if_neg (by rintro (h | h); omega; exact h h2)]]
        simp only
        rw [p9 (w := ⟨false, false, false, false⟩) (by simp) (by omega) (by simp only [List.length_cons]; omega) ⟨rfl, rfl, by simp, by simp, by simp, by simp, by simp, by simp⟩]
        unfold dG pW
        have e1 : ((c :: c2 :: l).map Ch.k).getD 0 [] = cS := h1
        have e2 : ((c :: c2 :: l).map (·.d.length)).getD 0 0 = 13 := h2
        have e3 : ((c :: c2 :: l).drop 1).take ((c :: c2 :: l).length - 2) = (c2 :: l).take ((c2 :: l).length - 1) := by simp
        have e4 : ((c :: c2 :: l).map Ch.k).getD ((c :: c2 :: l).length - 1) [] = ((c2 :: l).map Ch.k).getD ((c2 :: l).length - 1) [] := rfl
        have e5 : ((c :: c2 :: l).map (·.d.length)).getD ((c :: c2 :: l).length - 1) 0 = ((c2 :: l).map (·.d.length)).getD ((c2 :: l).length - 1) 0 := rfl
        rw [e1, e2, e3, e4, e5]
        rcases Nat.eq_zero_or_pos l.length with h0 | h0
        · have hl : l = [] := List.length_eq_zero_iff.1 h0
          subst hl
          simp [walk]
        · rw [decide_eq_true (p := 3 ≤ (c :: c2 :: l).length) (by simp only [List.length_cons]; omega)]
          rw [show (cS == cS) = true by decide, show ((13 : Nat) == 13) = true from rfl]
          have hb : ∀ a b m : Bool, (m && a && b) = (true && true && true && a && b && m) := by decide
          exact hb _ _ _
      · rw [show eJ (c :: c2 :: l).length 0 [] c ⟨0, 0, 0, 0, 0⟩ = none by unfold eJ; rw [if_pos h1, if_pos (.inr h2)]]
        have e2 : ((c :: c2 :: l).map (·.d.length)).getD 0 0 = c.d.length := rfl
        have e3 : (c.d.length == 13) = false := by simpa using h2
        unfold dG
        rw [e2, e3]
        simp
    · have e1 : ((c :: c2 :: l).map Ch.k).getD 0 [] = c.k := rfl
      have e3 : (c.k == cS) = false := by simpa using h1
      have e4 : dG (c :: c2 :: l) = false := by unfold dG; rw [e1, e3]; simp
      rw [e4]
      split
      · rfl
      · rename_i s2 h
        have hz : s2.iZ = 0 := by
          unfold eJ at h
          rw [if_neg h1] at h
          split at h
          · split at h <;> cases h; rfl
          · split at h
            · split at h <;> cases h; rfl
            · split at h
              · split at h <;> cases h; rfl
              · split at h
                · split at h <;> cases h; rfl
                · split at h <;> cases h; rfl
        exact tb (.inr (.inr ⟨by omega, hz⟩))
end Go.aa
namespace Go.aa
open Go.aj
def off (a b : Int) : Int := max (a - b) (b - a)
def rI (a b c : Int) : Int :=
  if off (a + b - c) a ≤ off (a + b - c) b ∧ off (a + b - c) a ≤ off (a + b - c) c then a else if off (a + b - c) b ≤ off (a + b - c) c then b else c
def pE (kind a b c : Int) : Int := if kind = 1 then a else if kind = 2 then b else if kind = 3 then (a + b) / 2 else if kind = 4 then rI a b c else 0
def gz (l : List Int) (i back : Nat) : Int := if i < back then 0 else l.getD (i - back) 0
def ks (kind : Int) (row above : List Int) (back : Nat) (out : List Int) (i : Nat) : Int := (row.getD i 0 + pE kind (gz out i back) (above.getD i 0) (gz above i back)) % 256
def jw (kind : Int) (row above : List Int) (back : Nat) : Nat → List Int
  | 0 => []
  | i + 1 => jw kind row above back i ++ [ks kind row above back (jw kind row above back i) i]
def gk (kind : Int) (row above : List Int) (back : Nat) : List Int := jw kind row above back row.length
theorem nc (kind : Int) (row above : List Int) (back : Nat) : ∀ i, (jw kind row above back i).length = i
  | 0 => rfl
  | i + 1 => by simp [jw, nc kind row above back i]
theorem uQ (kind : Int) (row above : List Int) (back : Nat) : (gk kind row above back).length = row.length := nc ..
theorem r8 (kind : Int) (row above : List Int) (back : Nat) : ∀ i, au (jw kind row above back i)
  | 0 => fun x hx => by cases hx
  | i + 1 => aO.au.snoc (r8 kind row above back i) (by unfold ks; omega)
theorem JY {a b : List Int} {i back : Nat} (ha : a.length = i) (hb : 0 < back) : gz (a ++ b) i back = gz a i back := by
  unfold gz
  split
  · rfl
  · rw [List.getD_eq_getElem?_getD, List.getD_eq_getElem?_getD, List.getElem?_append_left (by omega)]
theorem Gz {l : List Int} (h : au l) (i back : Nat) : 0 ≤ gz l i back ∧ gz l i back < 256 := by
  unfold gz
  split
  · decide
  · exact h.get _
structure Ps where
  x : Int
  y : Int
  dx : Int
  dy : Int
  w : Int
  h : Int
def many (frm step end_ : Int) : Int := if end_ ≤ frm then 0 else (end_ - frm + step - 1) / step
def uc (x y dx dy w h : Int) : Ps := ⟨x, y, dx, dy, many x dx w, many y dy h⟩
def jj (w h : Int) : List Ps := [uc 0 0 8 8 w h, uc 4 0 8 8 w h, uc 0 4 4 8 w h, uc 2 0 4 4 w h, uc 0 2 2 4 w h, uc 1 0 2 2 w h, uc 0 1 1 2 w h]
def gq (w h : Int) : List Ps := (jj w h).filter fun p => decide (0 < p.w) && decide (0 < p.h)
def whole (w h : Int) : List Ps := [⟨0, 0, 1, 1, w, h⟩]
def bR (w h : Int) : Int := if w < 1 ∨ h < 1 then 1 else if 256 < w ∨ 256 < h ∨ 16384 / h < w then 6 else 0
def fk (w bits : Int) : Int := (w * bits + 7) / 8
def fW (l : List Ps) (bits : Int) : Int := (l.map fun p => if 0 < p.w then p.h * (1 + fk p.w bits) else 0).sum
structure Hd where
  w : Int
  h : Int
  dep : Int
  ax : Int
  cA : Bool
def parts (c : Int) : Int := if c = 0 ∨ c = 3 then 1 else if c = 2 then 3 else if c = 4 then 2 else if c = 6 then 4 else 0
def deep (c d : Int) : Prop := (c = 0 ∧ (d = 1 ∨ d = 2 ∨ d = 4 ∨ d = 8 ∨ d = 16)) ∨ (c = 3 ∧ (d = 1 ∨ d = 2 ∨ d = 4 ∨ d = 8)) ∨ ((c = 2 ∨ c = 4 ∨ c = 6) ∧ (d = 8 ∨ d = 16))
instance (c d : Int) : Decidable (deep c d) := by unfold deep; infer_instance
def a8 (B : List Int) : Hd := ⟨aJ.dY B, aJ.dY (B.drop 4), B.getD 8 0, B.getD 9 0, decide (B.getD 12 0 = 1)⟩
def fc (B : List Int) : Int :=
  if B.length ≠ 13 then 4
  else if ¬ deep (a8 B).ax (a8 B).dep ∨ 0 < B.getD 10 0 + B.getD 11 0 ∨ 1 < B.getD 12 0 ∨ (a8 B).w = 0 ∨ (a8 B).h = 0 then 4
  else if bR (a8 B).w (a8 B).h = 0 then 0 else 6
def gZ (B : List Int) (i : Nat) : Int := B.getD (i / 8) 0 / 2 ^ (7 - i % 8) % 2
def cZ (B : List Int) (at_ : Nat) : Nat → Int
  | 0 => 0
  | n + 1 => 2 * cZ B at_ n + gZ B (at_ + n)
structure Fl where
  hd : Hd
  plte : List Int
  trns : List Int
def cm (l : List Ch) (k : List Int) : List Int := match l.find? (fun c => c.k == k) with | some c => c.d | none => []
def eQ (l : List Ch) (k : List Int) : Bool := l.any fun c => c.k == k
def c4 (l : List Ch) : List Int := (l.filter fun c => c.k == bQ).flatMap (·.d)
def mC (h : Hd) (plte : List Int) (has : Bool) (trns : List Int) (is : Bool) : Prop :=
  (if has then ¬ (h.ax = 0 ∨ h.ax = 4) ∧ (h.ax = 3 → (plte.length : Int) / 3 ≤ 2 ^ h.dep.toNat) ∧ plte.length % 3 = 0 ∧ 0 < plte.length ∧ plte.length / 3 ≤ 256 else h.ax ≠ 3) ∧
  (is = true → (h.ax = 3 ∧ trns.length ≤ plte.length / 3) ∨ (h.ax = 0 ∧ trns.length = 2) ∨ (h.ax = 2 ∧ trns.length = 6))
instance (h : Hd) (plte : List Int) (has : Bool) (trns : List Int) (is : Bool) : Decidable (mC h plte has trns is) := by unfold mC; infer_instance
def fE (h : Hd) (row : List Int) (x : Nat) : List Int := (List.range (parts h.ax).toNat).map fun i => cZ row (x * (parts h.ax).toNat * h.dep.toNat + i * h.dep.toNat) h.dep.toNat
def JN (h : Hd) (v : Int) : Int := v * (65535 / (2 ^ h.dep.toNat - 1))
def bD (h : Hd) (trns : List Int) : List Int := if h.ax = 0 ∨ h.ax = 2 then (List.range (trns.length / 2)).map fun i => (trns.getD (2 * i) 0 * 256 + trns.getD (2 * i + 1) 0) % 2 ^ h.dep.toNat else []
def jh (f : Fl) (v : List Int) : Option (List Int) :=
  if f.hd.ax = 3 then
    (if (f.plte.length / 3 : Nat) ≤ (v.getD 0 0).toNat then none
     else some [f.plte.getD (3 * (v.getD 0 0).toNat) 0 * 257, f.plte.getD (3 * (v.getD 0 0).toNat + 1) 0 * 257, f.plte.getD (3 * (v.getD 0 0).toNat + 2) 0 * 257, if (v.getD 0 0).toNat < f.trns.length then f.trns.getD (v.getD 0 0).toNat 0 * 257 else 65535])
  else
    let u := v.map (JN f.hd)
    let a := if 0 < (bD f.hd f.trns).length ∧ v = bD f.hd f.trns then 0 else if f.hd.ax = 4 ∨ f.hd.ax = 6 then u.getD (u.length - 1) 0 else 65535
    if f.hd.ax = 0 ∨ f.hd.ax = 4 then some [u.getD 0 0, u.getD 0 0, u.getD 0 0, a] else some [u.getD 0 0, u.getD 1 0, u.getD 2 0, a]
def l8 (w : Int) (c5 : List Int) (x y : Int) (c : List Int) : List Int := c5.take (4 * (y * w + x)).toNat ++ c ++ c5.drop ((4 * (y * w + x)).toNat + 4)
def gO (f : Fl) (p : Ps) (y : Int) (row : List Int) : Nat → Nat → List Int → Option (List Int)
  | 0, _, c5 => some c5
  | k + 1, i, c5 => match jh f (fE f.hd row i) with
    | none => none
    | some c => gO f p y row k (i + 1) (l8 f.hd.w c5 (p.x + i * p.dx) (p.y + y * p.dy) c)
def fh (f : Fl) (D : List Int) (n back : Nat) (p : Ps) : Nat → Nat → Nat → List Int → List Int → Option (Nat × List Int)
  | 0, _, at_, _, c5 => some (at_, c5)
  | k + 1, y, at_, above, c5 =>
    if 4 < D.getD at_ 0 then none
    else match gO f p y (gk (D.getD at_ 0) ((D.drop (at_ + 1)).take n) above back) p.w.toNat 0 c5 with
    | none => none
    | some pix2 => fh f D n back p k (y + 1) (at_ + 1 + n) (gk (D.getD at_ 0) ((D.drop (at_ + 1)).take n) above back) pix2
def bitsOf (h : Hd) : Int := parts h.ax * h.dep
def fG (f : Fl) (D : List Int) : List Ps → Nat → List Int → Option (List Int)
  | [], _, c5 => some c5
  | p :: l, at_, c5 => match fh f D (fk p.w (bitsOf f.hd)).toNat (max 1 (bitsOf f.hd / 8)).toNat p p.h.toNat 0 at_ [] c5 with
    | none => none
    | some (at2, pix2) => fG f D l at2 pix2
def bb (h : Hd) : List Ps := if h.cA then gq h.w h.h else whole h.w h.h
structure qQ where
  w : Int
  h : Int
  c5 : List Int
def ev : qQ := ⟨0, 0, []⟩
def kp (B : List Int) (r : qQ × Int) : Prop :=
  match cut B with
  | .error e => r = (ev, e)
  | .ok l =>
    if dG l = false then r = (ev, 4)
    else if fc ((l.map Ch.d).getD 0 []) ≠ 0 then r = (ev, fc ((l.map Ch.d).getD 0 []))
    else if ¬ mC (a8 ((l.map Ch.d).getD 0 [])) (cm l a7) (eQ l a7) (cm l bA) (eQ l bA) then r = (ev, 4)
    else ∃ q, aJ.m7 (c4 l) (fW (bb (a8 ((l.map Ch.d).getD 0 []))) (bitsOf (a8 ((l.map Ch.d).getD 0 [])))) q ∧
      if q.2 ≠ 0 then r = (ev, q.2)
      else if (q.1.length : Int) < fW (bb (a8 ((l.map Ch.d).getD 0 []))) (bitsOf (a8 ((l.map Ch.d).getD 0 []))) then r = (ev, 2)
      else match fG ⟨a8 ((l.map Ch.d).getD 0 []), cm l a7, cm l bA⟩ q.1 (bb (a8 ((l.map Ch.d).getD 0 []))) 0 (List.replicate (4 * (a8 ((l.map Ch.d).getD 0 [])).w * (a8 ((l.map Ch.d).getD 0 [])).h).toNat 0) with
        | none => r = (ev, 4)
        | some c5 => r = (⟨(a8 ((l.map Ch.d).getD 0 [])).w, (a8 ((l.map Ch.d).getD 0 [])).h, c5⟩, 0)
end Go.aa
namespace Go.aa
open Go.aj
theorem yG {frm step e k : Int} (hs : step = 1 ∨ step = 2 ∨ step = 4 ∨ step = 8) (hk : 0 ≤ k) : frm + k * step < e ↔ k < many frm step e := by
  unfold many
  rcases hs with rfl | rfl | rfl | rfl <;> split <;> omega
theorem zx {frm step e : Int} (hs : step = 1 ∨ step = 2 ∨ step = 4 ∨ step = 8) : 0 ≤ many frm step e := by
  unfold many
  rcases hs with rfl | rfl | rfl | rfl <;> split <;> omega
theorem zJ {frm step e : Int} (hf : 0 ≤ frm) (he : 0 ≤ e) (hs : step = 1 ∨ step = 2 ∨ step = 4 ∨ step = 8) : many frm step e ≤ e := by
  unfold many
  rcases hs with rfl | rfl | rfl | rfl <;> split <;> omega
theorem rh (B : List Int) (i : Nat) : 0 ≤ gZ B i ∧ gZ B i ≤ 1 := by unfold gZ; omega
theorem mK (B : List Int) (at_ : Nat) : ∀ n : Nat, 0 ≤ cZ B at_ n ∧ cZ B at_ n < 2 ^ n
  | 0 => by simp [cZ]
  | n + 1 => by
    have ih := mK B at_ n
    have hb := rh B (at_ + n)
    simp only [cZ]
    have e : (2 : Int) ^ (n + 1) = 2 * 2 ^ n := by rw [Int.pow_succ]; omega
    rw [e]
    omega
theorem sM (B : List Int) (at_ m : Nat) : ∀ n, cZ B at_ (m + n) = cZ B at_ m * 2 ^ n + cZ B (at_ + m) n
  | 0 => by simp [cZ]
  | n + 1 => by
    have ih := sM B at_ m n
    have e : cZ B at_ m * (2 ^ n * 2) = (cZ B at_ m * 2 ^ n) * 2 := (Int.mul_assoc _ _ _).symm
    rw [← Nat.add_assoc, cZ, ih, cZ, Int.pow_succ, e, Nat.add_assoc]
    omega
theorem lh (B : List Int) (j k : Nat) (hk : k < 8) : gZ B (8 * j + k) = B.getD j 0 / 2 ^ (7 - k) % 2 := by
  unfold gZ
  rw [show (8 * j + k) / 8 = j by omega, show (8 * j + k) % 8 = k by omega]
theorem ET (B : List Int) (a : Nat) : cZ B a 8 = 2 * (2 * (2 * (2 * (2 * (2 * (2 * (2 * 0 + gZ B (a + 0)) + gZ B (a + 1)) + gZ B (a + 2)) + gZ B (a + 3)) + gZ B (a + 4)) + gZ B (a + 5)) + gZ B (a + 6)) + gZ B (a + 7) := rfl
theorem NR {x : Int} (h : 0 ≤ x ∧ x < 256) : 2 * (2 * (2 * (2 * (2 * (2 * (2 * (2 * 0 + x / 128 % 2) + x / 64 % 2) + x / 32 % 2) + x / 16 % 2) + x / 8 % 2) + x / 4 % 2) + x / 2 % 2) + x / 1 % 2 = x := by omega
theorem mW {B : List Int} {j : Nat} (hb : 0 ≤ B.getD j 0 ∧ B.getD j 0 < 256) : cZ B (8 * j) 8 = B.getD j 0 := by
  rw [ET, lh B j 0 (by decide), lh B j 1 (by decide), lh B j 2 (by decide), lh B j 3 (by decide), lh B j 4 (by decide), lh B j 5 (by decide), lh B j 6 (by decide), lh B j 7 (by decide)]
  exact NR hb
theorem qV {B : List Int} {j : Nat} (hb : 0 ≤ B.getD j 0 ∧ B.getD j 0 < 256) (hc : 0 ≤ B.getD (j + 1) 0 ∧ B.getD (j + 1) 0 < 256) : cZ B (8 * j) 16 = B.getD j 0 * 256 + B.getD (j + 1) 0 := by
  have h := sM B (8 * j) 8 8
  rw [mW hb, show 8 * j + 8 = 8 * (j + 1) by omega, mW hc] at h
  simpa using h
end Go.aa
namespace Go.aa
open Go.aj
def ou (n : Int) : List Int := [n / 16777216 % 256, n / 65536 % 256, n / 256 % 256, n % 256]
theorem zP (n : Int) : (ou n).length = 4 := rfl
theorem Aa (n : Int) : au (ou n) := fun x hx => by
  simp only [ou, List.mem_cons, List.not_mem_nil, or_false] at hx
  rcases hx with rfl | rfl | rfl | rfl <;> omega
theorem yP {n : Int} (h : 0 ≤ n ∧ n < 4294967296) (r : List Int) : aJ.dY (ou n ++ r) = n := by
  simp only [aJ.dY, ou, List.cons_append, List.nil_append, List.getD_cons_zero, List.getD_cons_succ]
  omega
def fS (c : Ch) : List Int := ou (c.d.length : Int) ++ (c.k ++ (c.d ++ ou (ic c.k c.d)))
theorem jz {c : Ch} (hk : c.k.length = 4) : (fS c).length = 12 + c.d.length := by
  simp only [fS, List.length_append, zP, hk]; omega
def kV (c : Ch) : Prop := eh c.k ∧ au c.d ∧ c.d.length ≤ 2147483647
theorem rA {k : List Int} (h : eh k) : au k := fun x hx => by
  have := h.2 x hx
  unfold kI at this; omega
theorem MI {k d : List Int} (hk : au k) (hd : au d) : 0 ≤ ic k d ∧ ic k d < 4294967296 := tY (tY (by decide) hk) hd
theorem Hz {c : Ch} (h : kV c) : au (fS c) := aO.au.app (Aa _) (aO.au.app (rA h.1) (aO.au.app h.2.1 (Aa _)))
theorem ub {c : Ch} (h : kV c) (r : List Int) : first (fS c ++ r) = .ok c := by
  obtain ⟨hk, hd, hl⟩ := h
  have h4 := hk.1
  have hs := MI (rA hk) hd
  have e0 : fS c ++ r = ou (c.d.length : Int) ++ (c.k ++ (c.d ++ (ou (ic c.k c.d) ++ r))) := by simp [fS]
  have d4 : (fS c ++ r).drop 4 = c.k ++ (c.d ++ (ou (ic c.k c.d) ++ r)) := by rw [e0]; exact List.drop_left' rfl
  have e1 : ((fS c ++ r).drop 4).take 4 = c.k := by rw [d4]; exact List.take_left' h4
  have d8 : (fS c ++ r).drop 8 = c.d ++ (ou (ic c.k c.d) ++ r) := by
    rw [show 8 = 4 + 4 from rfl, ← List.drop_drop, d4]
    exact List.drop_left' h4
  have e2 : ((fS c ++ r).drop 8).take c.d.length = c.d := by rw [d8]; exact List.take_left
  have e3 : (fS c ++ r).drop (8 + c.d.length) = ou (ic c.k c.d) ++ r := by
    rw [← List.drop_drop, d8]; exact List.drop_left
  have e4 : aJ.dY (fS c ++ r) = (c.d.length : Int) := by rw [e0]; exact yP (by omega) _
  have e5 : (fS c ++ r).length = 12 + c.d.length + r.length := by rw [List.length_append, jz h4]
  unfold first
  rw [if_neg (by omega), e4, Int.toNat_natCast, e1, if_neg (by rintro (h | h); omega; exact h hk), if_neg (by omega), e2, e3, yP hs, if_pos rfl]
def iM (l : List Ch) : List Int := l.flatMap fS
theorem vk {e : Ch} (he : kV e) (hek : e.k = bV) : ∀ (l : List Ch) (f : Nat) (a : List Ch), (∀ c ∈ l, kV c ∧ c.k ≠ bV) → l.length < f → gy f (iM (l ++ [e])) a = .ok (a ++ (l ++ [e]))
  | [], f, a, _, hf => by
    obtain ⟨f, rfl⟩ : ∃ g, f = g + 1 := ⟨f - 1, by simp at hf; omega⟩
    have e1 : iM ([] ++ [e]) = fS e ++ [] := by simp [iM]
    rw [e1, gy, ub he]
    simp only
    rw [if_pos hek, List.append_nil, jz he.1.1, Nat.sub_self, if_pos rfl]
    simp
  | c :: l, f, a, hl, hf => by
    obtain ⟨f, rfl⟩ : ∃ g, f = g + 1 := ⟨f - 1, by simp at hf; omega⟩
    have hc := hl c (by simp)
    have e1 : iM (c :: l ++ [e]) = fS c ++ iM (l ++ [e]) := by simp [iM]
    have e2 : (fS c ++ iM (l ++ [e])).drop (12 + c.d.length) = iM (l ++ [e]) := List.drop_left' (jz hc.1.1.1)
    rw [e1, gy, ub hc.1]
    simp only
    rw [if_neg hc.2, e2, vk he hek l f _ (fun x hx => hl x (by simp [hx])) (by simp at hf; omega)]
    simp
theorem rP : ∀ l : List Ch, (∀ c ∈ l, kV c) → l.length ≤ (iM l).length
  | [], _ => Nat.zero_le _
  | c :: l, h => by
    have ih := rP l (fun x hx => h x (by simp [hx]))
    have := jz (h c (by simp)).1.1
    have e : iM (c :: l) = fS c ++ iM l := by simp [iM]
    rw [e, List.length_append, List.length_cons]
    omega
def cG (l : List Ch) : List Int := ff ++ iM l
theorem w5 {l : List Ch} {e : Ch} (he : kV e) (hek : e.k = bV) (hl : ∀ c ∈ l, kV c ∧ c.k ≠ bV) (hn : (cG (l ++ [e])).length ≤ 262144) : cut (cG (l ++ [e])) = .ok (l ++ [e]) := by
  have h8 : (cG (l ++ [e])).length = 8 + (iM (l ++ [e])).length := by simp [cG, ff]; omega
  have e1 : (cG (l ++ [e])).take 8 = ff := List.take_left' rfl
  have e2 : (cG (l ++ [e])).drop 8 = iM (l ++ [e]) := List.drop_left' rfl
  have hge := rP (l ++ [e]) (fun c hc => by
    rcases List.mem_append.1 hc with h | h
    · exact (hl c h).1
    · rw [List.mem_singleton.1 h]; exact he)
  unfold cut
  rw [if_neg (by omega), if_neg (by omega), if_pos e1, e2]
  have := vk he hek l ((cG (l ++ [e])).length + 1) [] hl (by rw [List.length_append, List.length_singleton] at hge; omega)
  simpa using this
theorem vt {l : List Ch} (h : ∀ c ∈ l, kV c) : au (cG l) := by
  have hs : au ff := by unfold au; decide
  refine aO.au.app hs (fun x hx => ?_)
  obtain ⟨c, hc, hx⟩ := List.mem_flatMap.1 hx
  exact Hz (h c hc) x hx
end Go.aa
namespace Go.aa
open Go.aj
def ei (l : List Ch) : List Int := (l.map Ch.d).getD 0 []
def pD (l : List Ch) : Fl := ⟨a8 (ei l), cm l a7, cm l bA⟩
def want (h : Hd) : Int := fW (bb h) (bitsOf h)
def k6 (h : Hd) : List Int := List.replicate (4 * h.w * h.h).toNat 0
inductive Pw (B : List Int) (r : qQ × Int) : Prop
  | cut (e : Int) (h : cut B = .error e) (hr : r = (ev, e))
  | ord (l : List Ch) (h : aa.cut B = .ok l) (ho : dG l = false) (hr : r = (ev, 4))
  | head (l : List Ch) (h : aa.cut B = .ok l) (ho : dG l = true) (hh : fc (ei l) ≠ 0) (hr : r = (ev, fc (ei l)))
  | table (l : List Ch) (h : aa.cut B = .ok l) (ho : dG l = true) (hh : fc (ei l) = 0) (ht : ¬ mC (a8 (ei l)) (cm l a7) (eQ l a7) (cm l bA) (eQ l bA)) (hr : r = (ev, 4))
  | open_ (l : List Ch) (q : List Int × Int) (h : aa.cut B = .ok l) (ho : dG l = true) (hh : fc (ei l) = 0) (ht : mC (a8 (ei l)) (cm l a7) (eQ l a7) (cm l bA) (eQ l bA)) (hq : aJ.m7 (c4 l) (want (a8 (ei l))) q)
      (hr : (q.2 ≠ 0 ∧ r = (ev, q.2)) ∨ (q.2 = 0 ∧ (q.1.length : Int) < want (a8 (ei l)) ∧ r = (ev, 2)) ∨
        (q.2 = 0 ∧ want (a8 (ei l)) ≤ q.1.length ∧ fG (pD l) q.1 (bb (a8 (ei l))) 0 (k6 (a8 (ei l))) = none ∧ r = (ev, 4)) ∨
        ∃ c5, q.2 = 0 ∧ want (a8 (ei l)) ≤ q.1.length ∧ fG (pD l) q.1 (bb (a8 (ei l))) 0 (k6 (a8 (ei l))) = some c5 ∧ r = (⟨(a8 (ei l)).w, (a8 (ei l)).h, c5⟩, 0))
theorem kp.ways {B : List Int} {r : qQ × Int} (h : kp B r) : Pw B r := by
  unfold kp at h
  cases hc : cut B with
  | error e => rw [hc] at h; exact .cut e hc h
  | ok l =>
    rw [hc] at h
    simp only at h
    split at h
    · rename_i ho; exact .ord l hc ho h
    · rename_i ho
      have ho : dG l = true := by simpa using ho
      split at h
      · rename_i hh; exact .head l hc ho hh h
      · rename_i hh
        have hh : fc (ei l) = 0 := by simpa [ei] using hh
        split at h
        · rename_i ht; exact .table l hc ho hh ht h
        · rename_i ht
          have ht := Classical.not_not.1 ht
          obtain ⟨q, hq, h⟩ := h
          refine .open_ l q hc ho hh ht hq ?_
          split at h
          · rename_i h1; exact .inl ⟨h1, h⟩
          · rename_i h1
            have h1 : q.2 = 0 := by simpa using h1
            split at h
            · rename_i h2; exact .inr (.inl ⟨h1, h2, h⟩)
            · rename_i h2
              have h2 : want (a8 (ei l)) ≤ q.1.length := Int.not_lt.1 h2
              split at h
              · rename_i h3; exact .inr (.inr (.inl ⟨h1, h2, h3, h⟩))
              · rename_i c5 h3; exact .inr (.inr (.inr ⟨c5, h1, h2, h3, h⟩))
theorem xt : ∀ {f : Nat} {L : List Int} {a l : List Ch}, au L → (∀ c ∈ a, au c.d) → gy f L a = .ok l → ∀ c ∈ l, au c.d
  | 0, L, a, l, _, _, h => by cases h
  | f + 1, L, a, l, hL, ha, h => by
    rw [gy] at h
    split at h
    · cases h
    · rename_i c hc
      have hd : au c.d := by
        unfold first at hc
        split at hc
        · cases hc
        · split at hc
          · cases hc
          · split at hc
            · cases hc
            · split at hc
              · cases hc
                exact fun x hx => hL x (List.mem_of_mem_drop (List.mem_of_mem_take hx))
              · cases hc
      have ha2 : ∀ y ∈ a ++ [c], au y.d := fun y hy => by
        rcases List.mem_append.1 hy with hy | hy
        · exact ha y hy
        · rw [List.mem_singleton.1 hy]; exact hd
      split at h
      · split at h
        · cases h; exact ha2
        · cases h
      · exact xt (fun x hx => hL x (List.mem_of_mem_drop hx)) ha2 h
theorem ik {B : List Int} {l : List Ch} (hB : au B) (h : cut B = .ok l) : ∀ c ∈ l, au c.d := by
  unfold cut at h
  split at h
  · cases h
  · split at h
    · cases h
    · split at h
      · exact xt (fun x hx => hB x (List.mem_of_mem_drop hx)) (fun c hc => by cases hc) h
      · cases h
theorem sF {l : List Ch} (h : ∀ c ∈ l, au c.d) : au (c4 l) := fun x hx => by
  obtain ⟨c, hc, hx⟩ := List.mem_flatMap.1 hx
  exact h c (List.mem_filter.1 hc).1 x hx
end Go.aa
namespace Go.aa
open Go.aj Go.ab
theorem qg : ∀ (f : Nat) {B : List Int}, B.length ≤ 65535 * (f + 1) → au B → ∀ X ∈ aO.jo f B, X.length ≤ 65535 ∧ au X
  | 0, B, h, hB, X, hX => by
    simp only [aO.jo, List.mem_singleton] at hX
    subst hX
    exact ⟨by omega, hB⟩
  | f + 1, B, h, hB, X, hX => by
    unfold aO.jo at hX
    split at hX
    · simp only [List.mem_singleton] at hX
      subst hX
      exact ⟨by omega, hB⟩
    · rcases List.mem_cons.1 hX with rfl | hX
      · exact ⟨by rw [List.length_take]; omega, fun x hx => hB x (List.mem_of_mem_take hx)⟩
      · exact qg f (by rw [List.length_drop]; omega) (fun x hx => hB x (List.mem_of_mem_drop hx)) X hX
theorem zq {B : List Int} (hl : B.length ≤ 4194304) (hB : au B) : au (aO.iB B) := r9 _ (qg 64 (by omega) hB)
theorem Kw {B : List Int} {mo mo' : Int} {q : List Int × Int × Int} (hB : au B) (h : jW B mo q) (he : q.2.2 = 0) (hl : (q.1.length : Int) ≤ mo') : jW B mo' q := by
  rcases h with ⟨_, rfl⟩ | ⟨h0, o, ho, rfl⟩
  · exact absurd he (by decide)
  · cases o with
    | error e => exact absurd he (Jq ho rfl)
    | ok p =>
      obtain ⟨x, n⟩ := p
      exact .inr ⟨by have : (x.length : Int) ≤ mo' := hl; omega, _, (yL hB ho (pc h0) x n rfl).2.1 hl, rfl⟩
def cP (B : List Int) : List Int := [120, 1] ++ aO.iB B ++ aJ.kF B
theorem uE (B : List Int) : cP B = 120 :: 1 :: (aO.iB B ++ aJ.kF B) := by simp [cP]
theorem mi {B : List Int} (h : B.length ≤ 4194304) : (cP B).length = B.length + 5 * ((B.length - 1) / 65535 + 1) + 6 := by
  simp only [cP, List.length_append, aO.rF h, aJ.rE, List.length_cons, List.length_nil]; omega
theorem C4 {B : List Int} {mo : Int} (hB : au B) (hl : B.length ≤ 4194304) (hm : (B.length : Int) ≤ mo) : aJ.m7 (cP B) mo (B, 0) := by
  have hs := aO.rF hl
  have hr := (aO.yV (t := aJ.kF B) hl hB (aJ.n5 B)).1
  have hb : au (aO.iB B ++ aJ.kF B) := aO.au.app (zq hl hB) (aJ.n5 B)
  rw [uE]
  refine .inr (.inr ⟨by simp [aJ.rE], aJ.Gb, _, Kw hb hr rfl hm, ?_⟩)
  have e1 : (aO.iB B ++ aJ.kF B).length - (aO.iB B).length = 4 := by rw [List.length_append, aJ.rE]; omega
  have e2 : (aO.iB B ++ aJ.kF B).drop (aO.iB B).length = aJ.kF B := List.drop_left
  simp only [aJ.fin, List.drop_succ_cons, List.drop_zero, Int.toNat_natCast, not_true_eq_false, if_false, e1, e2]
  rw [if_neg (by decide), if_neg (by decide), if_pos trivial]
theorem Hu {B : List Int} {mo : Int} (hB : au B) (hl : B.length ≤ 4194304) (h0 : 0 ≤ mo) (hm : mo < (B.length : Int)) : aJ.m7 (cP B) mo ([], 6) := by
  have hs := aO.rF hl
  have hr := (aO.yV (t := aJ.kF B) hl hB (aJ.n5 B)).2 mo h0 hm
  rw [uE]
  refine .inr (.inr ⟨by simp [aJ.rE], aJ.Gb, _, hr, ?_⟩)
  simp only [aJ.fin]
  rw [if_pos (by decide)]
theorem De {B : List Int} (hB : au B) (hl : B.length ≤ 4194304) : au (cP B) := by
  rw [uE]
  exact aJ.sJ (by decide) (aJ.sJ (by decide) (aO.au.app (zq hl hB) (aJ.n5 B)))
end Go.aa
namespace Go.aa
open Go.aj
def two (l : List Int) : List Int := l.flatMap fun s => [s / 256, s % 256]
theorem zk (l : List Int) : (two l).length = 2 * l.length := by
  induction l with
  | nil => rfl
  | cons a l ih => simp only [two, List.flatMap_cons, List.length_append, List.length_cons, List.length_nil] at ih ⊢; omega
theorem za : ∀ (l : List Int) (m : Nat), m < l.length → (two l).getD (2 * m) 0 = l.getD m 0 / 256 ∧ (two l).getD (2 * m + 1) 0 = l.getD m 0 % 256
  | [], m, h => by simp at h
  | a :: l, 0, _ => ⟨rfl, rfl⟩
  | a :: l, m + 1, h => by
    have ih := za l m (by simpa using h)
    have e : two (a :: l) = (a / 256) :: (a % 256) :: two l := rfl
    rw [e, show 2 * (m + 1) = 2 * m + 1 + 1 by omega, show 2 * m + 1 + 1 + 1 = (2 * m + 1) + 1 + 1 by omega]
    simpa using ih
def ot (l : List Int) : Prop := ∀ x ∈ l, 0 ≤ x ∧ x < 65536
theorem ot.get {l : List Int} (h : ot l) (i : Nat) : 0 ≤ l.getD i 0 ∧ l.getD i 0 < 65536 := by
  rcases Nat.lt_or_ge i l.length with k | k
  · rw [List.getD_eq_getElem?_getD, List.getElem?_eq_getElem k]; exact h _ (List.getElem_mem k)
  · rw [List.getD_eq_getElem?_getD, List.getElem?_eq_none k]; decide
theorem uJ {l : List Int} (h : ot l) : au (two l) := fun x hx => by
  obtain ⟨s, hs, hx⟩ := List.mem_flatMap.1 hx
  have := h s hs
  simp only [List.mem_cons, List.not_mem_nil, or_false] at hx
  rcases hx with rfl | rfl <;> omega
def jg (P : List Int) (W y : Nat) : List Int := two ((P.drop (4 * W * y)).take (4 * W))
def aR (P : List Int) (W : Nat) : Nat → List Int
  | 0 => []
  | y + 1 => aR P W y ++ (0 :: jg P W y)
theorem yg {P : List Int} {W H y : Nat} (hP : P.length = 4 * W * H) (hy : y < H) : (jg P W y).length = 8 * W := by
  have : 4 * W * (y + 1) ≤ 4 * W * H := Nat.mul_le_mul_left _ hy
  rw [Nat.mul_succ] at this
  rw [jg, zk, List.length_take, List.length_drop]; omega
theorem sE {P : List Int} {W H : Nat} (hP : P.length = 4 * W * H) : ∀ y, y ≤ H → (aR P W y).length = y * (1 + 8 * W)
  | 0, _ => by simp [aR]
  | y + 1, h => by
    have e : (y + 1) * (1 + 8 * W) = y * (1 + 8 * W) + (1 + 8 * W) := Nat.succ_mul _ _
    rw [aR, List.length_append, sE hP y (by omega), List.length_cons, yg hP (by omega), e]; omega
theorem sf (P : List Int) (W y : Nat) : ∀ k, ∃ r, aR P W (y + k) = aR P W y ++ r
  | 0 => ⟨[], by simp⟩
  | k + 1 => by
    obtain ⟨r, h⟩ := sf P W y k
    exact ⟨r ++ (0 :: jg P W (y + k)), by rw [← Nat.add_assoc, aR, h, List.append_assoc]⟩
theorem IV {P : List Int} {W H y : Nat} (hP : P.length = 4 * W * H) (hy : y < H) : (aR P W H).getD (y * (1 + 8 * W)) 0 = 0 ∧ ((aR P W H).drop (y * (1 + 8 * W) + 1)).take (8 * W) = jg P W y := by
  obtain ⟨r, h⟩ := sf P W (y + 1) (H - (y + 1))
  rw [show y + 1 + (H - (y + 1)) = H by omega, aR, List.append_assoc, List.cons_append] at h
  have hl := sE hP y (by omega)
  have hr := yg hP hy
  rw [h]
  constructor
  · rw [List.getD_eq_getElem?_getD, List.getElem?_append_right (by omega), hl, Nat.sub_self]; rfl
  · rw [← List.drop_drop, ← hl, List.drop_left, List.drop_succ_cons, List.drop_zero, ← hr, List.take_left]
theorem nh {P : List Int} (W : Nat) (h : ot P) : ∀ y, au (aR P W y)
  | 0 => fun x hx => by cases hx
  | y + 1 => aO.au.app (nh W h y) (aJ.sJ (by decide) (uJ (fun x hx => h x (List.mem_of_mem_drop (List.mem_of_mem_take hx)))))
end Go.aa
namespace Go.aa
open Go.aj
theorem N5 {row above : List Int} {back : Nat} (h : au row) : gk 0 row above back = row := by
  have e : ∀ i, i ≤ row.length → jw 0 row above back i = row.take i := by
    intro i
    induction i with
    | zero => intro _; simp [jw]
    | succ i ih =>
      intro hi
      have hb := h.get i
      rw [jw, ih (by omega), ab.kr (by omega)]
      have e0 : ∀ a b c : Int, pE 0 a b c = 0 := fun a b c => by unfold pE; simp
      have e1 : ks 0 row above back (row.take i) i = row.getD i 0 := by
        unfold ks
        rw [e0, Int.add_zero]
        omega
      rw [e1]
  rw [gk, e _ (Nat.le_refl _), List.take_length]
def fi (w h : Int) : Hd := ⟨w, h, 16, 6, false⟩
theorem H0 {P : List Int} {W H y m : Nat} (hP : P.length = 4 * W * H) (hy : y < H) (hm : m < 4 * W) : (jg P W y).getD (2 * m) 0 = P.getD (4 * W * y + m) 0 / 256 ∧ (jg P W y).getD (2 * m + 1) 0 = P.getD (4 * W * y + m) 0 % 256 := by
  have hle : 4 * W * (y + 1) ≤ 4 * W * H := Nat.mul_le_mul_left _ hy
  rw [Nat.mul_succ] at hle
  have hl : ((P.drop (4 * W * y)).take (4 * W)).length = 4 * W := by rw [List.length_take, List.length_drop]; omega
  have h := za ((P.drop (4 * W * y)).take (4 * W)) m (by omega)
  have e : ((P.drop (4 * W * y)).take (4 * W)).getD m 0 = P.getD (4 * W * y + m) 0 := by
    rw [List.getD_eq_getElem?_getD, List.getD_eq_getElem?_getD, List.getElem?_take_of_lt hm, List.getElem?_drop]
  rw [e] at h
  exact h
theorem JZ {P : List Int} {W H y x : Nat} (w h : Int) (hU : ot P) (hP : P.length = 4 * W * H) (hy : y < H) (hx : x < W) : fE (fi w h) (jg P W y) x = [P.getD (4 * (W * y + x)) 0, P.getD (4 * (W * y + x) + 1) 0, P.getD (4 * (W * y + x) + 2) 0, P.getD (4 * (W * y + x) + 3) 0] := by
  have hb : au (jg P W y) := uJ (fun z hz => hU z (List.mem_of_mem_drop (List.mem_of_mem_take hz)))
  have e : ∀ i, i < 4 → cZ (jg P W y) (x * 4 * 16 + i * 16) 16 = P.getD (4 * (W * y + x) + i) 0 := fun i hi => by
    have g := H0 (m := 4 * x + i) hP hy (by omega)
    have hu := hU.get (4 * W * y + (4 * x + i))
    have h16 := qV (hb.get (8 * x + 2 * i)) (hb.get (8 * x + 2 * i + 1))
    rw [show 8 * x + 2 * i = 2 * (4 * x + i) by omega, g.1, g.2] at h16
    rw [show x * 4 * 16 + i * 16 = 8 * (2 * (4 * x + i)) by omega, h16]
    have e3 : 4 * W * y + (4 * x + i) = 4 * (W * y + x) + i := by rw [Nat.mul_add, ← Nat.mul_assoc]; omega
    rw [e3] at hu ⊢
    omega
  have hp : fE (fi w h) (jg P W y) x = [cZ (jg P W y) (x * 4 * 16 + 0 * 16) 16, cZ (jg P W y) (x * 4 * 16 + 1 * 16) 16, cZ (jg P W y) (x * 4 * 16 + 2 * 16) 16, cZ (jg P W y) (x * 4 * 16 + 3 * 16) 16] := rfl
  rw [hp, e 0 (by decide), e 1 (by decide), e 2 (by decide), e 3 (by decide), Nat.add_zero]
theorem Ox (w h : Int) (plte trns : List Int) (a b c d : Int) : jh ⟨fi w h, plte, trns⟩ [a, b, c, d] = some [a, b, c, d] := by
  have e : ∀ v, JN (fi w h) v = v := fun v => by
    have : (65535 : Int) / (2 ^ (16 : Int).toNat - 1) = 1 := by decide
    simp only [JN, fi, this, Int.mul_one]
  unfold jh
  simp only [fi] at e ⊢
  rw [if_neg (by decide)]
  have hc : bD ⟨w, h, 16, 6, false⟩ trns = [] := by unfold bD; simp
  simp only [hc, List.length_nil, Nat.lt_irrefl, false_and, if_false, List.map_cons, List.map_nil, e]
  rw [if_neg (by decide)]
  simp
def laid (P : List Int) (k : Nat) : List Int := P.take (4 * k) ++ List.replicate (P.length - 4 * k) 0
theorem FQ {P : List Int} {W : Nat} {y x : Nat} (hk : 4 * (W * y + x) + 4 ≤ P.length) : l8 (W : Int) (laid P (W * y + x)) (0 + (x : Int) * 1) (0 + (y : Int) * 1) [P.getD (4 * (W * y + x)) 0, P.getD (4 * (W * y + x) + 1) 0, P.getD (4 * (W * y + x) + 2) 0, P.getD (4 * (W * y + x) + 3) 0] = laid P (W * y + (x + 1)) := by
  have e : (4 * ((0 + (y : Int) * 1) * (W : Int) + (0 + (x : Int) * 1))).toNat = 4 * (W * y + x) := by
    have : 4 * ((0 + (y : Int) * 1) * (W : Int) + (0 + (x : Int) * 1)) = ((4 * (W * y + x) : Nat) : Int) := by
      rw [Int.zero_add, Int.zero_add, Int.mul_one, Int.mul_one, Nat.mul_comm W y]; push_cast; rfl
    rw [this]; rfl
  unfold l8
  rw [e, show W * y + (x + 1) = (W * y + x) + 1 from rfl]
  clear e
  generalize W * y + x = k at hk
  have h1 : (laid P k).take (4 * k) = P.take (4 * k) := by
    unfold laid
    exact List.take_left' (by rw [List.length_take]; omega)
  have h2 : (laid P k).drop (4 * k + 4) = List.replicate (P.length - 4 * (k + 1)) 0 := by
    unfold laid
    rw [List.drop_append, List.drop_of_length_le (by rw [List.length_take]; omega), List.nil_append, List.length_take, List.drop_replicate]
    congr 1
    omega
  rw [h1, h2]
  unfold laid
  congr 1
  have h3 : P.take (4 * (k + 1)) = P.take (4 * k) ++ [P.getD (4 * k) 0] ++ [P.getD (4 * k + 1) 0] ++ [P.getD (4 * k + 2) 0] ++ [P.getD (4 * k + 3) 0] := by
    rw [show 4 * (k + 1) = 4 * k + 1 + 1 + 1 + 1 by omega, ab.kr (by omega), ab.kr (by omega), ab.kr (by omega), ab.kr (by omega)]
  rw [h3]
  simp
theorem CZ {P : List Int} {W H y : Nat} (w h : Int) (plte trns : List Int) (p : Ps) (hp : p.x = 0 ∧ p.y = 0 ∧ p.dx = 1 ∧ p.dy = 1) (hw : w = (W : Int)) (hU : ot P) (hP : P.length = 4 * W * H) (hy : y < H) : ∀ k i, i + k = W → gO ⟨fi w h, plte, trns⟩ p (y : Int) (jg P W y) k i (laid P (W * y + i)) = some (laid P (W * y + W))
  | 0, i, hi => by rw [gO, show i = W by omega]
  | k + 1, i, hi => by
    have hle : 4 * W * (y + 1) ≤ 4 * W * H := Nat.mul_le_mul_left _ hy
    rw [Nat.mul_succ, Nat.mul_assoc] at hle
    rw [gO, JZ w h hU hP hy (by omega), Ox]
    simp only [hp.1, hp.2.1, hp.2.2.1, hp.2.2.2]
    have e : (fi w h).w = (W : Int) := hw
    rw [e, FQ (by omega)]
    exact CZ w h plte trns p hp hw hU hP hy k (i + 1) (by omega)
theorem zL {P : List Int} {W H : Nat} (w h : Int) (plte trns : List Int) (p : Ps) (hp : p.x = 0 ∧ p.y = 0 ∧ p.dx = 1 ∧ p.dy = 1) (hpw : p.w = (W : Int)) (hw : w = (W : Int)) (hU : ot P) (hP : P.length = 4 * W * H) : ∀ k y above, y + k = H → fh ⟨fi w h, plte, trns⟩ (aR P W H) (8 * W) 8 p k y (y * (1 + 8 * W)) above (laid P (W * y)) = some (H * (1 + 8 * W), laid P (W * H))
  | 0, y, above, hy => by rw [fh, show y = H by omega]
  | k + 1, y, above, hy => by
    have ha := IV hP (show y < H by omega)
    have hb : au (jg P W y) := uJ (fun z hz => hU z (List.mem_of_mem_drop (List.mem_of_mem_take hz)))
    rw [fh, ha.1, if_neg (by decide), ha.2, N5 hb]
    have hpn : p.w.toNat = W := by rw [hpw]; rfl
    have hr := CZ w h plte trns p hp hw hU hP (show y < H by omega) W 0 (by omega)
    rw [Nat.add_zero] at hr
    rw [hpn, hr]
    simp only
    have e : y * (1 + 8 * W) + 1 + 8 * W = (y + 1) * (1 + 8 * W) := by rw [Nat.succ_mul y (1 + 8 * W)]; omega
    rw [e, show W * y + W = W * (y + 1) from (Nat.mul_succ _ _).symm]
    exact zL w h plte trns p hp hpw hw hU hP k (y + 1) (jg P W y) (by omega)
theorem Bo {P : List Int} {W H : Nat} (plte trns : List Int) (hU : ot P) (hP : P.length = 4 * W * H) : fG ⟨fi (W : Int) (H : Int), plte, trns⟩ (aR P W H) (whole (W : Int) (H : Int)) 0 (laid P 0) = some P := by
  have e1 : (fk (W : Int) (bitsOf (fi (W : Int) (H : Int)))).toNat = 8 * W := by
    have : bitsOf (fi (W : Int) (H : Int)) = 64 := rfl
    rw [this]; unfold fk; omega
  have e2 : (max 1 (bitsOf (fi (W : Int) (H : Int)) / 8)).toNat = 8 := rfl
  have h := zL (W : Int) (H : Int) plte trns ⟨0, 0, 1, 1, (W : Int), (H : Int)⟩ ⟨rfl, rfl, rfl, rfl⟩ rfl rfl hU hP H 0 [] (by omega)
  rw [Nat.zero_mul, Nat.mul_zero] at h
  have e3 : laid P (W * H) = P := by
    unfold laid
    rw [← Nat.mul_assoc, ← hP, List.take_length, Nat.sub_self]
    simp
  rw [e3] at h
  unfold whole fG
  simp only [e1, e2]
  rw [show ((H : Int)).toNat = H from rfl, h]
  rfl
end Go.aa
namespace Go.aa
open Go.aj
theorem AT : eh cS := by decide
theorem An : eh bQ := by decide
theorem GM : eh bV := by decide
theorem Nx : eh a7 := by decide
theorem Nz : eh bA := by decide
theorem LK : cS ≠ bV := by decide
theorem Kb : bQ ≠ bV := by decide
theorem Qs : a7 ≠ bV := by decide
theorem Qj : bA ≠ bV := by decide
def hB (w h : Int) : List Int := [0, 0, w / 256, w % 256, 0, 0, h / 256, h % 256, 16, 6, 0, 0, 0]
def lK (w h : Int) (z : List Int) : List Ch := [⟨cS, hB w h⟩, ⟨bQ, z⟩, ⟨bV, []⟩]
def fN (P : List Int) (W H : Nat) : List Int := cG (lK (W : Int) (H : Int) (cP (aR P W H)))
structure Sz (P : List Int) (W H : Nat) : Prop where
  w : 1 ≤ W ∧ W ≤ 256
  h : 1 ≤ H ∧ H ≤ 256
  wh : W * H ≤ 16384
  len : P.length = 4 * W * H
  u : ot P
theorem tc {W H : Nat} (hw : 1 ≤ W ∧ W ≤ 256) (hh : 1 ≤ H ∧ H ≤ 256) : a8 (hB (W : Int) (H : Int)) = fi (W : Int) (H : Int) := by
  unfold a8 fi hB
  simp only [aJ.dY, List.drop_succ_cons, List.drop_zero, List.getD_cons_zero, List.getD_cons_succ]
  congr 1 <;> first | omega | rfl
theorem ME {W H : Nat} (hw : 1 ≤ W ∧ W ≤ 256) (hh : 1 ≤ H ∧ H ≤ 256) : au (hB (W : Int) (H : Int)) := fun x hx => by
  simp only [hB, List.mem_cons, List.not_mem_nil, or_false] at hx
  rcases hx with rfl | rfl | rfl | rfl | rfl | rfl | rfl | rfl | rfl | rfl | rfl | rfl | rfl <;> omega
theorem JI {W H : Nat} (hw : 1 ≤ W ∧ W ≤ 256) (hh : 1 ≤ H ∧ H ≤ 256) (hwh : W * H ≤ 16384) : bR (W : Int) (H : Int) = 0 := by
  unfold bR
  have : (W : Int) ≤ 16384 / (H : Int) := by
    rw [Int.le_ediv_iff_mul_le (by omega)]
    have h2 : ((W * H : Nat) : Int) ≤ 16384 := by omega
    rw [Int.natCast_mul] at h2
    exact h2
  rw [if_neg (by omega), if_neg (by omega)]
theorem KB {W H : Nat} (hw : 1 ≤ W ∧ W ≤ 256) (hh : 1 ≤ H ∧ H ≤ 256) (hwh : W * H ≤ 16384) : fc (hB (W : Int) (H : Int)) = 0 := by
  unfold fc
  rw [tc hw hh]
  have e1 : (fi (W : Int) (H : Int)).w = (W : Int) := rfl
  have e2 : (fi (W : Int) (H : Int)).h = (H : Int) := rfl
  have e3 : deep (fi (W : Int) (H : Int)).ax (fi (W : Int) (H : Int)).dep := show deep 6 16 by decide
  have e4 : (hB (W : Int) (H : Int)).getD 10 0 = 0 := rfl
  have e5 : (hB (W : Int) (H : Int)).getD 11 0 = 0 := rfl
  have e6 : (hB (W : Int) (H : Int)).getD 12 0 = 0 := rfl
  rw [if_neg (by unfold hB; simp), e1, e2, e4, e5, e6, if_neg (by rintro (h | h | h | h | h); exact h e3; omega; omega; omega; omega), JI hw hh hwh, if_pos rfl]
theorem IW (w h : Int) (z : List Int) : dG (lK w h z) = true := by
  have e : walk (((lK w h z).drop 1).take ((lK w h z).length - 2)) ⟨false, false, false, false⟩ = some ⟨false, false, true, false⟩ := rfl
  unfold dG
  rw [e]
  rfl
theorem H9 (w h : Int) (z : List Int) : mC (fi w h) (cm (lK w h z) a7) (eQ (lK w h z) a7) (cm (lK w h z) bA) (eQ (lK w h z) bA) := by
  have e1 : eQ (lK w h z) a7 = false := rfl
  have e2 : eQ (lK w h z) bA = false := rfl
  rw [e1, e2]
  unfold mC
  simp [fi]
theorem Fj (w h : Int) (z : List Int) : c4 (lK w h z) = z := by
  have : c4 (lK w h z) = z ++ [] := rfl
  rw [this, List.append_nil]
theorem rm {P : List Int} {W H : Nat} (s : Sz P W H) : (aR P W H).length = H * (1 + 8 * W) := sE s.len H (Nat.le_refl _)
theorem Cd {W H : Nat} (hw : 1 ≤ W ∧ W ≤ 256) : want (fi (W : Int) (H : Int)) = ((H * (1 + 8 * W) : Nat) : Int) := by
  have e : want (fi (W : Int) (H : Int)) = ([if 0 < (W : Int) then (H : Int) * (1 + fk (W : Int) 64) else 0] : List Int).sum := rfl
  have e2 : fk (W : Int) 64 = 8 * (W : Int) := by unfold fk; omega
  rw [e, if_pos (by omega), e2]
  simp
theorem lr {P : List Int} {W H : Nat} (s : Sz P W H) : (aR P W H).length ≤ 131328 := by
  have h1 := rm s
  have h2 := s.wh
  have h3 := s.h.2
  have e : H * (1 + 8 * W) = H + 8 * (W * H) := by rw [Nat.mul_add, Nat.mul_one, Nat.mul_comm H (8 * W), Nat.mul_assoc]
  omega
theorem tK {P : List Int} {W H : Nat} (s : Sz P W H) : ∀ c ∈ [(⟨cS, hB (W : Int) (H : Int)⟩ : Ch), ⟨bQ, cP (aR P W H)⟩], kV c ∧ c.k ≠ bV := fun c hc => by
  have hr := lr s
  have hb := De (nh W s.u H) (by omega)
  have hl := mi (B := aR P W H) (by omega)
  simp only [List.mem_cons, List.not_mem_nil, or_false] at hc
  rcases hc with rfl | rfl
  · exact ⟨⟨AT, ME s.w s.h, by simp [hB]⟩, LK⟩
  · exact ⟨⟨An, hb, by simp only; omega⟩, Kb⟩
theorem oi : kV ⟨bV, []⟩ := ⟨GM, aO.iQ, by decide⟩
theorem qR {P : List Int} {W H : Nat} (s : Sz P W H) : (fN P W H).length = 57 + (cP (aR P W H)).length := by
  have e : fN P W H = ff ++ (fS ⟨cS, hB (W : Int) (H : Int)⟩ ++ (fS ⟨bQ, cP (aR P W H)⟩ ++ fS ⟨bV, []⟩)) := by simp [fN, cG, iM, lK]
  rw [e, List.length_append, List.length_append, List.length_append, jz AT.1, jz An.1, jz GM.1]
  simp [ff, hB]
  omega
theorem Dm {P : List Int} {W H : Nat} (s : Sz P W H) : cut (fN P W H) = .ok (lK (W : Int) (H : Int) (cP (aR P W H))) := by
  have hr := lr s
  have hl := mi (B := aR P W H) (by omega)
  have hp := qR s
  exact w5 (l := [⟨cS, hB (W : Int) (H : Int)⟩, ⟨bQ, cP (aR P W H)⟩]) oi rfl (tK s) (by
    have : (fN P W H).length ≤ 262144 := by omega
    exact this)
theorem DU {P : List Int} {W H : Nat} (s : Sz P W H) : au (fN P W H) := vt (fun c hc => by
  have hc : c ∈ [(⟨cS, hB (W : Int) (H : Int)⟩ : Ch), ⟨bQ, cP (aR P W H)⟩] ++ [⟨bV, []⟩] := hc
  rcases List.mem_append.1 hc with h | h
  · exact (tK s c h).1
  · rw [List.mem_singleton.1 h]; exact oi)
theorem vi {P : List Int} {W H : Nat} (s : Sz P W H) : k6 (fi (W : Int) (H : Int)) = laid P 0 := by
  have e : (4 * (W : Int) * (H : Int)).toNat = P.length := by
    have : 4 * (W : Int) * (H : Int) = ((4 * W * H : Nat) : Int) := by push_cast; rfl
    rw [this, s.len]; rfl
  unfold k6 laid
  simp only [fi, e, Nat.mul_zero, List.take_zero, List.nil_append, Nat.sub_zero]
theorem Bi {P : List Int} {W H : Nat} (s : Sz P W H) : kp (fN P W H) (⟨(W : Int), (H : Int), P⟩, 0) := by
  have hr := lr s
  have hrl := rm s
  have hw := Cd (H := H) s.w
  have hd : (((lK (W : Int) (H : Int) (cP (aR P W H))).map Ch.d).getD 0 []) = hB (W : Int) (H : Int) := rfl
  unfold kp
  rw [Dm s]
  simp only [hd, tc s.w s.h, KB s.w s.h s.wh, Fj]
  rw [if_neg (by rw [IW]; decide), if_neg (fun h => h rfl), if_neg (fun h => h (H9 _ _ _))]
  have hwant : fW (bb (fi (W : Int) (H : Int))) (bitsOf (fi (W : Int) (H : Int))) = (((aR P W H).length : Nat) : Int) := by rw [hrl]; exact hw
  rw [hwant]
  refine ⟨(aR P W H, 0), C4 (nh W s.u H) (by omega) (Int.le_refl _), ?_⟩
  rw [if_neg (fun h => h rfl), if_neg (Int.lt_irrefl _)]
  have hdr := Bo (cm (lK (W : Int) (H : Int) (cP (aR P W H))) a7) (cm (lK (W : Int) (H : Int) (cP (aR P W H))) bA) s.u s.len
  have h0 := vi s
  unfold k6 at h0
  have hp : bb (fi (W : Int) (H : Int)) = whole (W : Int) (H : Int) := rfl
  rw [hp, h0]
  simp only
  rw [hdr]
  rfl
end Go.aa
namespace Go.aa
open Go.aj
theorem vB {x : Int} (h0 : 0 ≤ x ∧ x < 4294967296) : IntKind.u32.wrap ((BitVec.ofInt IntKind.u32.bits x &&& BitVec.ofInt IntKind.u32.bits 1).toNat : Int) = x % 2 := by
  obtain ⟨a, rfl⟩ : ∃ a : Nat, x = (a : Int) := ⟨x.toNat, by omega⟩
  have e : IntKind.u32.bits = 32 := rfl
  have e1 : BitVec.ofInt 32 1 = BitVec.ofInt 32 ((1 : Nat) : Int) := rfl
  rw [e, e1, BitVec.toNat_and, eF, eF, Nat.mod_eq_of_lt (by omega), Nat.mod_eq_of_lt (by omega), Nat.and_one_is_mod, aJ.wrap32 (by omega) (by omega)]
  omega
theorem mc {x r : Int} {n : Nat} {d : Int} (hd : d = (n : Int)) (hn : n ≤ 32) (hr : x / 2 ^ n = r) : x.fdiv (2 ^ (min d.toNat IntKind.u32.bits)) = r := by rw [aJ.Aj hd hn, hr]
theorem ee (n : Int) : IntKind.u8.wrap n = n % 256 := rfl
def gR (k : Nat) (x : Int) : Int := ((kW k x.toNat : Nat) : Int)
theorem Gh {x : Int} (h : 0 ≤ x) : gR 0 x = x := by unfold gR kW; omega
theorem GQ (x : Int) : gR 8 x = gL x := rfl
theorem Dc {x : Int} (h : 0 ≤ x ∧ x < 4294967296) (k : Nat) : 0 ≤ gR k x ∧ gR k x < 4294967296 := by
  have := AE (x := x.toNat) (by omega) k
  unfold gR; omega
theorem zF {x : Int} {k : Nat} (h : gR k x % 2 = 1) : gR (k + 1) x = eE (gR k x / 2) 3988292384 := by
  have h2 : kW k x.toNat % 2 = 1 := by unfold gR at h; omega
  have e : ((kW k x.toNat : Nat) : Int) / 2 = ((kW k x.toNat / 2 : Nat) : Int) := by omega
  unfold gR eE
  rw [kW, qt, if_pos h2, e, Int.toNat_natCast]
  rfl
theorem xN {x : Int} {k : Nat} (h : ¬ gR k x % 2 = 1) : gR (k + 1) x = gR k x / 2 := by
  have h2 : ¬ kW k x.toNat % 2 = 1 := by unfold gR at h; omega
  unfold gR
  rw [kW, qt, if_neg h2]
  omega
def iC (i : Nat) : List Int := (List.range i).map (fun j => gL (j : Nat)) ++ List.replicate (256 - i) 0
def eU : List Int := iC 256
theorem wm {i : Nat} (h : i ≤ 256) : (iC i).length = 256 := by simp [iC]; omega
theorem Mg : iC 0 = List.replicate 256 0 := rfl
theorem D7 {i : Nat} (h : i < 256) : (iC i).set i (gL (i : Nat)) = iC (i + 1) := by
  unfold iC
  rw [List.set_append_right _ _ (by simp), List.length_map, List.length_range, Nat.sub_self, show 256 - i = (256 - (i + 1)) + 1 by omega, List.replicate_succ, List.set_cons_zero, List.range_succ, List.map_append]
  simp
theorem EO {x : Int} (h : 0 ≤ x ∧ x < 256) : eU.getD x.toNat 0 = gL x := by
  obtain ⟨n, rfl⟩ : ∃ n : Nat, x = (n : Int) := ⟨x.toNat, by omega⟩
  have hn : n < 256 := by omega
  have : eU = (List.range 256).map (fun j => gL (j : Nat)) := by unfold eU iC; simp
  rw [this, Int.toNat_natCast, List.getD_eq_getElem?_getD, List.getElem?_map, List.getElem?_range hn]
  rfl
theorem aY {l : List Int} (h : au l) : ∀ x ∈ l, 0 ≤ x ∧ x < 256 := h
theorem Ht : iC 256 = eU := rfl
theorem fL {l : List Int} (h : au l) (i : Nat) : au (l.take i) := fun x hx => h x (List.mem_of_mem_take hx)
theorem I7 : eU.length = 256 := wm (Nat.le_refl _)
theorem LG {a b : Int} (ha : 0 ≤ a ∧ a < 256) (hb : 0 ≤ b ∧ b < 256) : 0 ≤ eE a b ∧ eE a b < 256 := pL (n := 8) ha hb
theorem Jl {a b : Int} (ha : 0 ≤ a ∧ a < 4294967296) (hb : 0 ≤ b ∧ b < 4294967296) : 0 ≤ eE a b ∧ eE a b < 4294967296 := pL (n := 32) ha hb
end Go.aa
namespace Go.aa
open Go.aj
theorem Np (c : Int) : (97 ≤ c ∧ c ≤ 122) ∨ (97 ≤ c ∧ ¬ c ≤ 122) ∨ (¬ 97 ≤ c ∧ 65 ≤ c ∧ c ≤ 90) ∨ (¬ 97 ≤ c ∧ 65 ≤ c ∧ ¬ c ≤ 90) ∨ (¬ 97 ≤ c ∧ ¬ 65 ≤ c) := by omega
theorem uK {k : List Int} {i : Nat} (h : ¬ kI (k.getD i 0)) (hi : i < k.length) : ¬ eh k := fun hn => h (by
  rw [List.getD_eq_getElem?_getD, List.getElem?_eq_getElem hi]
  exact hn.2 _ (List.getElem_mem hi))
theorem y8 {k : List Int} (h : ∀ j, j < k.length → kI (k.getD j 0)) : eh k ↔ k.length = 4 := by
  constructor
  · exact fun h => h.1
  · refine fun h4 => ⟨h4, fun c hc => ?_⟩
    obtain ⟨j, hj, rfl⟩ := List.getElem_of_mem hc
    have := h j hj
    rwa [List.getD_eq_getElem?_getD, List.getElem?_eq_getElem hj] at this
theorem OQ {k : List Int} {t : Bool} (ht : t = decide (eh k)) (h : ∀ j, j < k.length → kI (k.getD j 0)) : decide ((k.length : Int) = 4) = t := by
  rw [ht]
  have := y8 h
  by_cases h4 : k.length = 4
  · rw [decide_eq_true (this.2 h4), decide_eq_true (by omega)]
  · rw [decide_eq_false (fun hh => h4 (this.1 hh)), decide_eq_false (by omega)]
def ac (B : List Int) : Nat → Int
  | 0 => 0
  | i + 1 => ac B i * 256 + B.getD i 0
theorem Qa (B : List Int) : ac B 4 = aJ.dY B := by simp only [ac, aJ.dY]; omega
theorem Ov {B : List Int} (hB : au B) {i : Nat} (hi : i < 4) : 0 ≤ ac B i ∧ ac B i < 16777216 := by
  have h0 := hB.get 0; have h1 := hB.get 1; have h2 := hB.get 2
  have : i = 0 ∨ i = 1 ∨ i = 2 ∨ i = 3 := by omega
  rcases this with rfl | rfl | rfl | rfl <;> simp only [ac] <;> omega
theorem BE {B : List Int} {n i : Nat} (h : i < n) : (B.take n).getD i 0 = B.getD i 0 := by
  rw [List.getD_eq_getElem?_getD, List.getD_eq_getElem?_getD, List.getElem?_take_of_lt h]
end Go.aa
namespace Go.aa
open Go.aj
theorem wC {L : List Int} (hL : au L) : (L.length < 12 ∧ first L = .error 2) ∨
    (∃ n : Nat, 12 ≤ L.length ∧ aJ.dY L = (n : Int) ∧ n < 4294967296 ∧ 2147483647 < n ∧ first L = .error 4) ∨
    (∃ n : Nat, 12 ≤ L.length ∧ aJ.dY L = (n : Int) ∧ n ≤ 2147483647 ∧ ¬ eh ((L.drop 4).take 4) ∧ first L = .error 4) ∨
    (∃ n : Nat, 12 ≤ L.length ∧ aJ.dY L = (n : Int) ∧ n ≤ 2147483647 ∧ eh ((L.drop 4).take 4) ∧ L.length < 12 + n ∧ first L = .error 2) ∨
    (∃ n : Nat, 12 ≤ L.length ∧ aJ.dY L = (n : Int) ∧ n ≤ 2147483647 ∧ eh ((L.drop 4).take 4) ∧ 12 + n ≤ L.length ∧ aJ.dY (L.drop (8 + n)) = ic ((L.drop 4).take 4) ((L.drop 8).take n) ∧ first L = .ok ⟨(L.drop 4).take 4, (L.drop 8).take n⟩) ∨
    (∃ n : Nat, 12 ≤ L.length ∧ aJ.dY L = (n : Int) ∧ n ≤ 2147483647 ∧ eh ((L.drop 4).take 4) ∧ 12 + n ≤ L.length ∧ ¬ aJ.dY (L.drop (8 + n)) = ic ((L.drop 4).take 4) ((L.drop 8).take n) ∧ first L = .error 5) := by
  rcases MF hL with h | ⟨n, h12, hn, hb, ⟨h1, h2⟩ | ⟨h1, h2, h3⟩ | ⟨h1, h2, h3, h4⟩ | ⟨h1, h2, h3, h4, h5⟩ | ⟨h1, h2, h3, h4, h5⟩⟩
  · exact .inl h
  · exact .inr (.inl ⟨n, h12, hn, hb, h1, h2⟩)
  · exact .inr (.inr (.inl ⟨n, h12, hn, h1, h2, h3⟩))
  · exact .inr (.inr (.inr (.inl ⟨n, h12, hn, h1, h2, h3, h4⟩)))
  · exact .inr (.inr (.inr (.inr (.inl ⟨n, h12, hn, h5, h2, h1, h3, h4⟩))))
  · exact .inr (.inr (.inr (.inr (.inr ⟨n, h12, hn, h5, h2, h1, h3, h4⟩))))
theorem eu {l : List Int} (h : au l) (i : Nat) : au (l.drop i) := fun x hx => h x (List.mem_of_mem_drop hx)
theorem iy {l : List Int} {i n : Nat} (h : i + n ≤ l.length) : ((l.drop i).take n).length = n := by rw [List.length_take, List.length_drop]; omega
end Go.aa
namespace Go.aa
open Go.aj
theorem Cn {L : List Int} {x : Ch} (hL : au L) (h : first L = .ok x) : 12 + x.d.length ≤ L.length ∧ eh x.k ∧ au x.d := by
  rcases wC hL with ⟨_, h1⟩ | ⟨n, _, _, _, _, h1⟩ | ⟨n, _, _, _, _, h1⟩ | ⟨n, _, _, _, _, _, h1⟩ | ⟨n, _, _, _, h2, h3, _, h1⟩ | ⟨n, _, _, _, _, _, _, h1⟩ <;> rw [h1] at h <;> cases h
  refine ⟨?_, h2, fL (eu hL 8) n⟩
  have := iy (l := L) (i := 8) (n := n) (by omega)
  show 12 + ((L.drop 8).take n).length ≤ _
  omega
theorem EI {L : List Int} {e : Int} (hL : au L) (h : first L = .error e) : e ≠ 0 := by
  rcases wC hL with ⟨_, h1⟩ | ⟨n, _, _, _, _, h1⟩ | ⟨n, _, _, _, _, h1⟩ | ⟨n, _, _, _, _, _, h1⟩ | ⟨n, _, _, _, h2, h3, _, h1⟩ | ⟨n, _, _, _, _, _, _, h1⟩ <;> rw [h1] at h <;> cases h <;> decide
theorem PL {Z : List Int} (hZ : au Z) : (∃ e, first Z = .error e ∧ e ≠ 0) ∨ (∃ x, first Z = .ok x ∧ 12 + x.d.length ≤ Z.length ∧ eh x.k ∧ au x.d ∧ x.k ≠ bV) ∨
    (∃ x, first Z = .ok x ∧ 12 + x.d.length = Z.length ∧ eh x.k ∧ au x.d ∧ x.k = bV) ∨ (∃ x, first Z = .ok x ∧ 12 + x.d.length < Z.length ∧ eh x.k ∧ au x.d ∧ x.k = bV) := by
  cases h : first Z with
  | error e => exact .inl ⟨e, rfl, EI hZ h⟩
  | ok x =>
    obtain ⟨h1, h2, h3⟩ := Cn hZ h
    by_cases hk : x.k = bV
    · rcases Nat.lt_or_ge (12 + x.d.length) Z.length with h4 | h4
      · exact .inr (.inr (.inr ⟨x, rfl, h4, h2, h3, hk⟩))
      · exact .inr (.inr (.inl ⟨x, rfl, by omega, h2, h3, hk⟩))
    · exact .inr (.inl ⟨x, rfl, h1, h2, h3, hk⟩)
theorem Nt {f : Nat} {Z : List Int} {l : List Ch} {e : Int} (h : first Z = .error e) : gy (f + 1) Z l = .error e := by rw [gy, h]
theorem Mc {f : Nat} {Z : List Int} {l : List Ch} {x : Ch} (h : first Z = .ok x) (hk : x.k ≠ bV) : gy (f + 1) Z l = gy f (Z.drop (12 + x.d.length)) (l ++ [x]) := by
  rw [gy, h]; simp only; rw [if_neg hk]
theorem Ni {f : Nat} {Z : List Int} {l : List Ch} {x : Ch} (h : first Z = .ok x) (hk : x.k = bV) (hl : 12 + x.d.length = Z.length) : gy (f + 1) Z l = .ok (l ++ [x]) := by
  rw [gy, h]; simp only; rw [if_pos hk, if_pos (by omega)]
theorem Nq {f : Nat} {Z : List Int} {l : List Ch} {x : Ch} (h : first Z = .ok x) (hk : x.k = bV) (hl : 12 + x.d.length < Z.length) : gy (f + 1) Z l = .error 4 := by
  rw [gy, h]; simp only; rw [if_pos hk, if_neg (by omega)]
theorem MK (B : List Int) : (262144 < B.length ∧ cut B = .error 3) ∨ (B.length < 8 ∧ cut B = .error 2) ∨ (B.length ≤ 262144 ∧ 8 ≤ B.length ∧ B.take 8 ≠ ff ∧ cut B = .error 4) ∨ (B.length ≤ 262144 ∧ 8 ≤ B.length ∧ B.take 8 = ff ∧ gy (B.length + 1) (B.drop 8) [] = cut B) := by
  rcases Nat.lt_or_ge 262144 B.length with h | h
  · exact .inl ⟨h, by unfold cut; rw [if_pos h]⟩
  · rcases Nat.lt_or_ge B.length 8 with h2 | h2
    · exact .inr (.inl ⟨h2, by unfold cut; rw [if_neg (by omega), if_pos h2]⟩)
    · by_cases h3 : B.take 8 = ff
      · exact .inr (.inr (.inr ⟨h, h2, h3, by unfold cut; rw [if_neg (by omega), if_neg (by omega), if_pos h3]⟩))
      · exact .inr (.inr (.inl ⟨h, h2, h3, by unfold cut; rw [if_neg (by omega), if_neg (by omega), if_neg h3]⟩))
theorem wQ : ff.length = 8 := rfl
theorem sK : au ff := by unfold au; decide
theorem wM : au bV := by unfold au; decide
end Go.aa
namespace Go.aa
open Go.aj
theorem P1 {p t i o : Bool} {c : Ch} (h : c.k = bQ) : de ⟨p, t, i, o⟩ c = (⟨p, t, true, o⟩, !o) := by unfold de; rw [if_pos h]
theorem OU {p i o : Bool} {c : Ch} (h1 : c.k ≠ bQ) (h2 : c.k = a7) : de ⟨p, true, i, o⟩ c = (⟨p, true, i, i⟩, false) := by unfold de; rw [if_neg h1, if_pos h2]; rfl
theorem Oi {p i o : Bool} {c : Ch} (h1 : c.k ≠ bQ) (h2 : c.k = a7) : de ⟨p, false, i, o⟩ c = (⟨true, false, i, i⟩, !p && !i) := by unfold de; rw [if_neg h1, if_pos h2]; rfl
theorem PI {p t i o : Bool} {c : Ch} (h1 : c.k ≠ bQ) (h2 : c.k ≠ a7) (h3 : c.k = bA) : de ⟨p, t, i, o⟩ c = (⟨p, true, i, i⟩, !t && !i) := by unfold de; rw [if_neg h1, if_neg h2, if_pos h3]
theorem EK {p t i o : Bool} {c : Ch} {r : Bool} (h1 : c.k ≠ bQ) (h2 : c.k ≠ a7) (h3 : c.k ≠ bA) (hr : r = (decide (eh c.k) && !decide (gN c.k))) : de ⟨p, t, i, o⟩ c = (⟨p, t, i, i⟩, r) := by unfold de; rw [if_neg h1, if_neg h2, if_neg h3, hr]
theorem OT (k : List Int) (t : Bool) : k = bQ ∨ (k ≠ bQ ∧ k = a7 ∧ t = true) ∨ (k ≠ bQ ∧ k = a7 ∧ t = false) ∨ (k ≠ bQ ∧ k ≠ a7 ∧ k = bA) ∨ (k ≠ bQ ∧ k ≠ a7 ∧ k ≠ bA ∧ ¬ eh k) ∨ (k ≠ bQ ∧ k ≠ a7 ∧ k ≠ bA ∧ eh k ∧ gN k) ∨ (k ≠ bQ ∧ k ≠ a7 ∧ k ≠ bA ∧ eh k ∧ ¬ gN k) := by
  by_cases h1 : k = bQ
  · exact .inl h1
  · by_cases h2 : k = a7
    · cases t
      · exact .inr (.inr (.inl ⟨h1, h2, rfl⟩))
      · exact .inr (.inl ⟨h1, h2, rfl⟩)
    · by_cases h3 : k = bA
      · exact .inr (.inr (.inr (.inl ⟨h1, h2, h3⟩)))
      · by_cases h4 : eh k
        · by_cases h5 : gN k
          · exact .inr (.inr (.inr (.inr (.inr (.inl ⟨h1, h2, h3, h4, h5⟩)))))
          · exact .inr (.inr (.inr (.inr (.inr (.inr ⟨h1, h2, h3, h4, h5⟩)))))
        · exact .inr (.inr (.inr (.inr (.inl ⟨h1, h2, h3, h4⟩))))
theorem Ab {k : List Int} (h : eh k) : k.length = 4 := h.1
theorem Km {k : List Int} {t : Bool} (ht : t = decide (gN k)) (h : eh k) : t = decide (k.getD 0 0 ≤ 90) := by
  rw [ht]
  by_cases h9 : k.getD 0 0 ≤ 90
  · exact (decide_eq_true (show gN k from ⟨h, h9⟩)).trans (decide_eq_true h9).symm
  · exact (decide_eq_false (fun hh : gN k => h9 hh.2)).trans (decide_eq_false h9).symm
theorem Kh {k : List Int} {t : Bool} (ht : t = decide (gN k)) (h : ¬ eh k) : t = false := ht.trans (decide_eq_false (fun hh => h hh.1))
theorem Qi {k : List Int} (h : ¬ eh k) : false = (decide (eh k) && !decide (gN k)) := by rw [decide_eq_false h]; rfl
theorem Qy {k : List Int} (h : gN k) : false = (decide (eh k) && !decide (gN k)) := by rw [decide_eq_true h]; simp
theorem QF {k : List Int} (h : eh k) (h2 : ¬ gN k) : true = (decide (eh k) && !decide (gN k)) := by rw [decide_eq_true h, decide_eq_false h2]; rfl
theorem kz : au bQ := by unfold au; decide
theorem jZ : au a7 := by unfold au; decide
theorem l7 : au bA := by unfold au; decide
theorem Ho : au cS := by unfold au; decide
def xz : Wk := ⟨false, false, false, false⟩
def bo (l : List Ch) : List Ch := (l.drop 1).take (l.length - 2)
def wid (o : Option Wk) : Bool := match o with | some w => w.c4 | none => false
theorem Qd (l : List Ch) : (l.length < 3 ∧ dG l = false) ∨ (3 ≤ l.length ∧ ((l.map Ch.k).getD 0 [] ≠ cS) ∧ dG l = false) ∨ (3 ≤ l.length ∧ (l.map Ch.k).getD 0 [] = cS ∧ ¬ ((l.map (·.d.length)).getD 0 0 = 13) ∧ dG l = false) ∨
    (3 ≤ l.length ∧ (l.map Ch.k).getD 0 [] = cS ∧ (l.map (·.d.length)).getD 0 0 = 13 ∧ (l.map Ch.k).getD (l.length - 1) [] ≠ bV ∧ dG l = false) ∨
    (3 ≤ l.length ∧ (l.map Ch.k).getD 0 [] = cS ∧ (l.map (·.d.length)).getD 0 0 = 13 ∧ (l.map Ch.k).getD (l.length - 1) [] = bV ∧ ¬ ((l.map (·.d.length)).getD (l.length - 1) 0 = 0) ∧ dG l = false) ∨
    (3 ≤ l.length ∧ (l.map Ch.k).getD 0 [] = cS ∧ (l.map (·.d.length)).getD 0 0 = 13 ∧ (l.map Ch.k).getD (l.length - 1) [] = bV ∧ (l.map (·.d.length)).getD (l.length - 1) 0 = 0 ∧ dG l = wid (walk (bo l) xz)) := by
  by_cases h1 : 3 ≤ l.length
  · by_cases h2 : (l.map Ch.k).getD 0 [] = cS
    · by_cases h3 : (l.map (·.d.length)).getD 0 0 = 13
      · by_cases h4 : (l.map Ch.k).getD (l.length - 1) [] = bV
        · by_cases h5 : (l.map (·.d.length)).getD (l.length - 1) 0 = 0
          · refine .inr (.inr (.inr (.inr (.inr ⟨h1, h2, h3, h4, h5, ?_⟩))))
            unfold dG
            rw [h2, h3, h4, h5, decide_eq_true h1, show (cS == cS) = true by decide, show (bV == bV) = true by decide]
            rfl
          · refine .inr (.inr (.inr (.inr (.inl ⟨h1, h2, h3, h4, h5, ?_⟩))))
            unfold dG
            rw [beq_eq_false_iff_ne.2 h5]
            simp
        · refine .inr (.inr (.inr (.inl ⟨h1, h2, h3, h4, ?_⟩)))
          unfold dG
          rw [beq_eq_false_iff_ne.2 h4]
          simp
      · refine .inr (.inr (.inl ⟨h1, h2, h3, ?_⟩))
        unfold dG
        rw [beq_eq_false_iff_ne.2 h3]
        simp
    · refine .inr (.inl ⟨h1, h2, ?_⟩)
      unfold dG
      rw [beq_eq_false_iff_ne.2 h2]
      simp
  · refine .inl ⟨by omega, ?_⟩
    unfold dG
    rw [decide_eq_false h1]
    simp
theorem Lo {l : List Ch} {i : Nat} {w : Wk} (c : Ch) (hc : l[i]? = some c) : walk (l.drop i) w = (if (de w c).2 then walk (l.drop (i + 1)) (de w c).1 else none) := by
  have hlt := (List.getElem?_eq_some_iff.1 hc).1
  rw [List.drop_eq_getElem_cons hlt, walk]
  have : l[i] = c := by rw [List.getElem?_eq_getElem hlt] at hc; exact Option.some.inj hc
  rw [this]
theorem C8 {l : List Ch} {i : Nat} {w : Wk} (h : l.length ≤ i) : walk (l.drop i) w = some w := by rw [List.drop_of_length_le h, walk]
end Go.aa
namespace Go.aa
open Go.aj
def Ep (l : List Ch) : Int := if dG l then 0 else 4
theorem pO {l : List Ch} (h : dG l = true) : Ep l = 0 := if_pos h
theorem mr {l : List Ch} (h : dG l = false) : Ep l = 4 := if_neg (by rw [h]; decide)
theorem Ld (b : Bool) : b = true ∨ b = false := by cases b <;> simp
theorem zC {l : List Ch} (h : 3 ≤ l.length) : (bo l).length = l.length - 2 := by unfold bo; rw [List.length_take, List.length_drop]; omega
theorem HK {l : List Ch} {i : Nat} (h : i < l.length - 2) : (bo l)[i]? = l[1 + i]? := by unfold bo; rw [List.getElem?_take_of_lt h, List.getElem?_drop]
theorem Cz {l : List Ch} (h : dG l = wid (walk (bo l) xz)) {w : Wk} (hw : walk (bo l) xz = some w) : dG l = w.c4 := by rw [h, hw]; rfl
theorem Kd {l : List Ch} (h : dG l = wid (walk (bo l) xz)) (hw : walk (bo l) xz = none) : dG l = false := by rw [h, hw]; rfl
end Go.aa
namespace Go.aa
open Go.aj
def nK (c : Int) : Int := IntKind.u8.wrap ((BitVec.ofInt IntKind.u8.bits c ||| BitVec.ofInt IntKind.u8.bits 32).toNat : Int)
theorem ID : ∀ k : Fin 256, (decide (97 ≤ nK ((k.val : Nat) : Int) ∧ nK ((k.val : Nat) : Int) ≤ 122) == decide (kI ((k.val : Nat) : Int))) = true := by decide +kernel
theorem H3 {c : Int} (h : 0 ≤ c ∧ c < 256) : (97 ≤ nK c ∧ nK c ≤ 122) ↔ kI c := by
  obtain ⟨k, rfl⟩ := aJ.sD h
  have := ID k
  rw [beq_iff_eq] at this
  by_cases h1 : kI ((k.val : Nat) : Int)
  · rw [decide_eq_true h1] at this; exact ⟨fun _ => h1, fun _ => of_decide_eq_true this⟩
  · rw [decide_eq_false h1] at this; exact ⟨fun hh => absurd hh (of_decide_eq_false this), fun hh => absurd hh h1⟩
theorem o3 {c : Int} (h : 0 ≤ c ∧ c < 256) : (nK c < 97 ∧ ¬ kI c) ∨ (¬ nK c < 97 ∧ 122 < nK c ∧ ¬ kI c) ∨ (¬ nK c < 97 ∧ ¬ 122 < nK c ∧ kI c) := by
  have := H3 h
  rcases Int.lt_or_le (nK c) 97 with h1 | h1
  · exact .inl ⟨h1, fun hh => by have := this.2 hh; omega⟩
  · rcases Int.lt_or_le 122 (nK c) with h2 | h2
    · exact .inr (.inl ⟨by omega, h2, fun hh => by have := this.2 hh; omega⟩)
    · exact .inr (.inr ⟨by omega, by omega, this.1 ⟨h1, h2⟩⟩)
theorem NQ {k : List Int} (h : ¬ k.length = 4) : ¬ eh k := fun hn => h hn.1
end Go.aa
namespace Go.aa
open Go.aj
variable {n i : Nat} {prev : List Int} {c : Ch} {s : Od}
end Go.aa
namespace Go.aa
open Go.aj Go.Sl
theorem LQ {a b A B : Int} (ha : 0 ≤ a ∧ a ≤ A) (hb : 0 ≤ b ∧ b ≤ B) : 0 ≤ a * b ∧ a * b ≤ A * B := ⟨Int.mul_nonneg ha.1 hb.1, Int.mul_le_mul ha.2 hb.2 hb.1 (by omega)⟩
theorem Ai (w h : Int) : (w < 1 ∧ bR w h = 1) ∨ (¬ w < 1 ∧ h < 1 ∧ bR w h = 1) ∨ (¬ w < 1 ∧ ¬ h < 1 ∧ 256 < w ∧ bR w h = 6) ∨ (¬ w < 1 ∧ ¬ h < 1 ∧ ¬ 256 < w ∧ 256 < h ∧ bR w h = 6) ∨ (¬ w < 1 ∧ ¬ h < 1 ∧ ¬ 256 < w ∧ ¬ 256 < h ∧ 16384 / h < w ∧ bR w h = 6) ∨ (¬ w < 1 ∧ ¬ h < 1 ∧ ¬ 256 < w ∧ ¬ 256 < h ∧ ¬ 16384 / h < w ∧ bR w h = 0) := by
  unfold bR
  by_cases h1 : w < 1
  · exact .inl ⟨h1, if_pos (.inl h1)⟩
  by_cases h2 : h < 1
  · exact .inr (.inl ⟨h1, h2, if_pos (.inr h2)⟩)
  rw [if_neg (by omega)]
  by_cases h3 : 256 < w
  · exact .inr (.inr (.inl ⟨h1, h2, h3, if_pos (.inl h3)⟩))
  by_cases h4 : 256 < h
  · exact .inr (.inr (.inr (.inl ⟨h1, h2, h3, h4, if_pos (.inr (.inl h4))⟩)))
  by_cases h5 : 16384 / h < w
  · exact .inr (.inr (.inr (.inr (.inl ⟨h1, h2, h3, h4, h5, if_pos (.inr (.inr h5))⟩))))
  · exact .inr (.inr (.inr (.inr (.inr ⟨h1, h2, h3, h4, h5, if_neg (by rintro (h | h | h); exact h3 h; exact h4 h; exact h5 h)⟩))))
theorem ke {w h : Int} (hs : bR w h = 0) : 1 ≤ w ∧ w ≤ 256 ∧ 1 ≤ h ∧ h ≤ 256 ∧ 1 ≤ w * h ∧ w * h ≤ 16384 := by
  rcases Ai w h with h | h | h | h | h | ⟨h1, h2, h3, h4, h5, _⟩ <;> try omega
  have hm : w * h ≤ 16384 / h * h := Int.mul_le_mul_of_nonneg_right (by omega) (by omega)
  have hd : 16384 / h * h ≤ 16384 := Int.ediv_mul_le _ (by omega)
  have hp : 0 < w * h := Int.mul_pos (by omega) (by omega)
  omega
theorem qi {w h : Int} (hs : bR w h = 0) : 4 ≤ 4 * w * h ∧ 4 * w * h ≤ 65536 := by
  have := ke hs
  rw [Int.mul_assoc]; omega
theorem sV {h : Int} (h1 : 1 ≤ h) : IntKind.i64.wrap ((16384 : Int).tdiv h) = 16384 / h := by
  rw [Int.tdiv_eq_ediv_of_nonneg (by decide)]
  have := Int.ediv_nonneg (a := 16384) (b := h) (by decide) (by omega)
  have h2 : 16384 / h ≤ 16384 := Int.ediv_le_self _ (by decide)
  exact gF (by omega) (by omega)
def j6 (p : Ps) : Prop := 0 ≤ p.x ∧ p.x ≤ 8 ∧ 0 ≤ p.y ∧ p.y ≤ 8 ∧ (p.dx = 1 ∨ p.dx = 2 ∨ p.dx = 4 ∨ p.dx = 8) ∧ (p.dy = 1 ∨ p.dy = 2 ∨ p.dy = 4 ∨ p.dy = 8) ∧ 0 ≤ p.w ∧ p.w ≤ 256 ∧ 0 ≤ p.h ∧ p.h ≤ 256
theorem oc {w bits : Int} (hw : 0 ≤ w ∧ w ≤ 256) (hb : 0 ≤ bits ∧ bits ≤ 64) : 0 ≤ w * bits ∧ w * bits ≤ 16384 ∧ 0 ≤ fk w bits ∧ fk w bits ≤ 2048 := by
  have := LQ hw hb
  unfold fk; omega
def sW (bits : Int) (p : Ps) : Int := if 0 < p.w then p.h * (1 + fk p.w bits) else 0
theorem BV {p : Ps} {bits : Int} (hp : j6 p) (hb : 0 ≤ bits ∧ bits ≤ 64) : 0 ≤ sW bits p ∧ sW bits p ≤ 524544 ∧ 0 ≤ p.h * (1 + fk p.w bits) ∧ p.h * (1 + fk p.w bits) ≤ 524544 := by
  obtain ⟨_, _, _, _, _, _, h1, h2, h3, h4⟩ := hp
  have hr := oc (w := p.w) ⟨h1, h2⟩ hb
  have := LQ (a := p.h) (b := 1 + fk p.w bits) ⟨h3, h4⟩ (B := 2049) (by omega)
  unfold sW
  split <;> omega
theorem oM (l : List Ps) (bits : Int) : fW l bits = (l.map (sW bits)).sum := rfl
theorem yZ : ∀ (a b : List Int), (a ++ b).sum = a.sum + b.sum
  | [], b => by simp
  | x :: a, b => by simp [yZ a b]; omega
theorem rQ {l : List Ps} {bits : Int} {i : Nat} (h : i < l.length) : fW (l.take (i + 1)) bits = fW (l.take i) bits + sW bits (l.getD i ⟨0, 0, 0, 0, 0, 0⟩) := by
  rw [oM, oM, List.take_succ_eq_append_getElem h, List.map_append, yZ, List.getD_eq_getElem?_getD, List.getElem?_eq_getElem h]
  simp
theorem vh {l : List Ps} {bits : Int} (hb : 0 ≤ bits ∧ bits ≤ 64) (hl : ∀ p ∈ l, j6 p) : 0 ≤ fW l bits ∧ fW l bits ≤ 524544 * l.length := by
  induction l with
  | nil => simp [fW]
  | cons p l ih =>
    have h1 := BV (hl p (by simp)) hb
    have h2 := ih (fun q hq => hl q (by simp [hq]))
    rw [oM] at h2 ⊢
    simp only [List.map_cons, List.sum_cons, List.length_cons]
    omega
theorem OG {p : Ps} {bits : Int} (h : 0 < p.w) : sW bits p = p.h * (1 + fk p.w bits) := if_pos h
theorem OX {p : Ps} {bits : Int} (h : ¬ 0 < p.w) : sW bits p = 0 := if_neg h
theorem CC {x y dx dy w h : Int} (hx : 0 ≤ x ∧ x ≤ 8) (hy : 0 ≤ y ∧ y ≤ 8) (hdx : dx = 1 ∨ dx = 2 ∨ dx = 4 ∨ dx = 8) (hdy : dy = 1 ∨ dy = 2 ∨ dy = 4 ∨ dy = 8) (hw : 0 ≤ w ∧ w ≤ 256) (hh : 0 ≤ h ∧ h ≤ 256) : j6 (uc x y dx dy w h) := by
  have a := zx (frm := x) (e := w) hdx
  have b := zx (frm := y) (e := h) hdy
  have c := zJ (frm := x) (e := w) hx.1 hw.1 hdx
  have d := zJ (frm := y) (e := h) hy.1 hh.1 hdy
  exact ⟨hx.1, hx.2, hy.1, hy.2, hdx, hdy, a, Int.le_trans c hw.2, b, Int.le_trans d hh.2⟩
theorem IT {w h : Int} (hw : 0 ≤ w ∧ w ≤ 256) (hh : 0 ≤ h ∧ h ≤ 256) : ∀ p ∈ jj w h, j6 p := by
  intro p hp
  simp only [jj, List.mem_cons, List.not_mem_nil, or_false] at hp
  rcases hp with rfl | rfl | rfl | rfl | rfl | rfl | rfl <;> exact CC (by decide) (by decide) (by decide) (by decide) hw hh
theorem Ed (w h : Int) : (jj w h).length = 7 := rfl
theorem BJ {w h : Int} (hw : 0 ≤ w ∧ w ≤ 256) (hh : 0 ≤ h ∧ h ≤ 256) : (∀ p ∈ gq w h, j6 p) ∧ (gq w h).length ≤ 7 := ⟨fun p hp => IT hw hh p (List.mem_filter.1 hp).1, List.length_filter_le _ _⟩
theorem wk {w h : Int} (hw : 0 ≤ w ∧ w ≤ 256) (hh : 0 ≤ h ∧ h ≤ 256) : (∀ p ∈ whole w h, j6 p) ∧ (whole w h).length ≤ 7 := ⟨fun p hp => by
  simp only [whole, List.mem_cons, List.not_mem_nil, or_false] at hp
  subst hp
  exact ⟨Int.le_refl _, (by decide : (0:Int) ≤ 8), Int.le_refl _, (by decide : (0:Int) ≤ 8), .inl rfl, .inl rfl, hw.1, hw.2, hh.1, hh.2⟩, by simp [whole]⟩
def pY (p : Ps) : Bool := decide (0 < p.w) && decide (0 < p.h)
def jG (w h : Int) (i : Nat) : List Ps := ((jj w h).take i).filter pY
theorem LX (w h : Int) : jG w h 7 = gq w h := rfl
theorem Bp (w h : Int) : jG w h 0 = [] := rfl
theorem Ee (w h : Int) (i : Nat) : (jG w h i).length ≤ i := by
  have h1 := List.length_filter_le pY ((jj w h).take i)
  have h2 : ((jj w h).take i).length ≤ i := by rw [List.length_take]; omega
  exact Nat.le_trans h1 h2
theorem BA {w h : Int} {i : Nat} (hi : i < 7) : jG w h (i + 1) = jG w h i ++ (if pY ((jj w h).getD i ⟨0, 0, 0, 0, 0, 0⟩) then [(jj w h).getD i ⟨0, 0, 0, 0, 0, 0⟩] else []) := by
  unfold jG
  rw [List.take_succ_eq_append_getElem (show i < (jj w h).length from hi), List.filter_append, List.getD_eq_getElem?_getD, List.getElem?_eq_getElem (show i < (jj w h).length from hi), Option.getD_some]
  congr 1
  simp only [List.filter]
  split <;> simp_all
theorem Mq (p : Ps) : (¬ 0 < p.w ∧ pY p = false) ∨ (0 < p.w ∧ ¬ 0 < p.h ∧ pY p = false) ∨ (0 < p.w ∧ 0 < p.h ∧ pY p = true) := by
  unfold pY
  by_cases h1 : 0 < p.w
  · by_cases h2 : 0 < p.h
    · exact .inr (.inr ⟨h1, h2, by simp [h1, h2]⟩)
    · exact .inr (.inl ⟨h1, h2, by simp [h2]⟩)
  · exact .inl ⟨h1, by simp [h1]⟩
theorem Dk {w h : Int} {i : Nat} (hi : i < 7) {p : Ps} (hp : (jj w h).getD i ⟨0, 0, 0, 0, 0, 0⟩ = p) (ht : pY p = true) : jG w h i ++ [p] = jG w h (i + 1) := by rw [BA hi, hp, if_pos ht]
theorem Dg {w h : Int} {i : Nat} (hi : i < 7) {p : Ps} (hp : (jj w h).getD i ⟨0, 0, 0, 0, 0, 0⟩ = p) (ht : pY p = false) : jG w h i = jG w h (i + 1) := by rw [BA hi, hp, if_neg (by rw [ht]; decide), List.append_nil]
theorem II {l : List Ps} (h : ∀ p ∈ l, j6 p) {i : Nat} (hi : i < l.length) : j6 (l.getD i ⟨0, 0, 0, 0, 0, 0⟩) := by
  rw [List.getD_eq_getElem?_getD, List.getElem?_eq_getElem hi]; exact h _ (List.getElem_mem hi)
theorem OY {step e : Int} (hs : step = 1 ∨ step = 2 ∨ step = 4 ∨ step = 8) (frm : Int) (h : e ≤ frm) : many frm step e = 0 := if_pos h
theorem GB {frm step e : Int} (h : ¬ e ≤ frm) : many frm step e = (e - frm + step - 1) / step := if_neg h
theorem many1 {e : Int} (h : 1 ≤ e) : many 0 1 e = e := by rw [GB (by omega)]; omega
end Go.aa
namespace Go.aa
open Go.aj
def QU : List Ps := [⟨0, 0, 8, 8, 0, 0⟩, ⟨4, 0, 8, 8, 0, 0⟩, ⟨0, 4, 4, 8, 0, 0⟩, ⟨2, 0, 4, 4, 0, 0⟩, ⟨0, 2, 2, 4, 0, 0⟩, ⟨1, 0, 2, 2, 0, 0⟩, ⟨0, 1, 1, 2, 0, 0⟩]
theorem tl (c : Int) : (c = 0 ∧ parts c = 1) ∨ (c ≠ 0 ∧ c = 3 ∧ parts c = 1) ∨ (c ≠ 0 ∧ c ≠ 3 ∧ c = 2 ∧ parts c = 3) ∨ (c ≠ 0 ∧ c ≠ 3 ∧ c ≠ 2 ∧ c = 4 ∧ parts c = 2) ∨ (c ≠ 0 ∧ c ≠ 3 ∧ c ≠ 2 ∧ c ≠ 4 ∧ c = 6 ∧ parts c = 4) ∨ (c ≠ 0 ∧ c ≠ 3 ∧ c ≠ 2 ∧ c ≠ 4 ∧ c ≠ 6 ∧ parts c = 0) := by
  unfold parts
  by_cases h0 : c = 0
  · exact .inl ⟨h0, by simp [h0]⟩
  by_cases h3 : c = 3
  · exact .inr (.inl ⟨h0, h3, by simp [h3]⟩)
  by_cases h2 : c = 2
  · exact .inr (.inr (.inl ⟨h0, h3, h2, by simp [h2]⟩))
  by_cases h4 : c = 4
  · exact .inr (.inr (.inr (.inl ⟨h0, h3, h2, h4, by simp [h4]⟩)))
  by_cases h6 : c = 6
  · exact .inr (.inr (.inr (.inr (.inl ⟨h0, h3, h2, h4, h6, by simp [h6]⟩))))
  · exact .inr (.inr (.inr (.inr (.inr ⟨h0, h3, h2, h4, h6, by simp [h0, h3, h2, h4, h6]⟩))))
theorem On (c d : Int) : (c = 0 ∧ decide (deep c d) = decide (d ∈ ([1, 2, 4, 8, 16] : List Int))) ∨ (c ≠ 0 ∧ c = 3 ∧ decide (deep c d) = decide (d ∈ ([1, 2, 4, 8] : List Int))) ∨ (c ≠ 0 ∧ c ≠ 3 ∧ ¬ 0 < parts c ∧ decide (deep c d) = false) ∨ (c ≠ 0 ∧ c ≠ 3 ∧ 0 < parts c ∧ d = 8 ∧ decide (deep c d) = true) ∨ (c ≠ 0 ∧ c ≠ 3 ∧ 0 < parts c ∧ ¬ d = 8 ∧ decide (deep c d) = decide (d = 16)) := by
  by_cases h0 : c = 0
  · refine .inl ⟨h0, decide_eq_decide.2 ?_⟩
    unfold deep; simp [h0]
  by_cases h3 : c = 3
  · refine .inr (.inl ⟨h0, h3, decide_eq_decide.2 ?_⟩)
    unfold deep; simp [h3]
  by_cases hp : 0 < parts c
  · have hc : c = 2 ∨ c = 4 ∨ c = 6 := by rcases tl c with h | h | h | h | h | h <;> omega
    by_cases h8 : d = 8
    · exact .inr (.inr (.inr (.inl ⟨h0, h3, hp, h8, decide_eq_true (.inr (.inr ⟨hc, .inl h8⟩))⟩)))
    · refine .inr (.inr (.inr (.inr ⟨h0, h3, hp, h8, decide_eq_decide.2 ?_⟩)))
      unfold deep
      exact ⟨fun h => by rcases h with h | h | h <;> omega, fun h => .inr (.inr ⟨hc, .inr h⟩)⟩
  · refine .inr (.inr (.inl ⟨h0, h3, hp, decide_eq_false ?_⟩))
    unfold deep
    rintro (h | h | h)
    · exact h0 h.1
    · exact h3 h.1
    · have : 0 < parts c := by rcases tl c with g | g | g | g | g | g <;> omega
      exact hp this
theorem K4 {l : List Int} {x : Int} {i : Nat} (h : i < l.length) (e : x = l.getD i 0) : x ∈ l := by
  rw [e, List.getD_eq_getElem?_getD, List.getElem?_eq_getElem h]; exact List.getElem_mem h
theorem IS {l : List Int} {x : Int} (h : ∀ j, j < l.length → x ≠ l.getD j 0) : x ∉ l := fun hx => by
  obtain ⟨j, hj, e⟩ := List.getElem_of_mem hx
  refine h j hj ?_
  rw [List.getD_eq_getElem?_getD, List.getElem?_eq_getElem hj]; exact e.symm
theorem Jk {l : List Int} {x r : Int} {t : Bool} (ht : t = decide (x ∈ l)) (h : 0 ≤ r ↔ x ∈ l) : decide (0 ≤ r) = t := by rw [ht]; exact decide_eq_decide.2 h
end Go.aa
namespace Go.aa
open Go.aj Go.Sl
theorem JO (a b : Int) : (if a - b < b - a then b - a else a - b) = off a b := by unfold off; split <;> omega
theorem PQ (a b c : Int) : (off (a + b - c) a ≤ off (a + b - c) b ∧ off (a + b - c) a ≤ off (a + b - c) c ∧ rI a b c = a) ∨ (off (a + b - c) a ≤ off (a + b - c) b ∧ ¬ off (a + b - c) a ≤ off (a + b - c) c ∧ off (a + b - c) b ≤ off (a + b - c) c ∧ rI a b c = b) ∨ (off (a + b - c) a ≤ off (a + b - c) b ∧ ¬ off (a + b - c) a ≤ off (a + b - c) c ∧ ¬ off (a + b - c) b ≤ off (a + b - c) c ∧ rI a b c = c) ∨
    (¬ off (a + b - c) a ≤ off (a + b - c) b ∧ off (a + b - c) b ≤ off (a + b - c) c ∧ rI a b c = b) ∨ (¬ off (a + b - c) a ≤ off (a + b - c) b ∧ ¬ off (a + b - c) b ≤ off (a + b - c) c ∧ rI a b c = c) := by
  unfold rI
  by_cases h1 : off (a + b - c) a ≤ off (a + b - c) b
  · by_cases h2 : off (a + b - c) a ≤ off (a + b - c) c
    · exact .inl ⟨h1, h2, if_pos ⟨h1, h2⟩⟩
    · rw [if_neg (fun h => h2 h.2)]
      by_cases h3 : off (a + b - c) b ≤ off (a + b - c) c
      · exact .inr (.inl ⟨h1, h2, h3, if_pos h3⟩)
      · exact .inr (.inr (.inl ⟨h1, h2, h3, if_neg h3⟩))
  · rw [if_neg (fun h => h1 h.1)]
    by_cases h3 : off (a + b - c) b ≤ off (a + b - c) c
    · exact .inr (.inr (.inr (.inl ⟨h1, h3, if_pos h3⟩)))
    · exact .inr (.inr (.inr (.inr ⟨h1, h3, if_neg h3⟩)))
def rK (l : List Int) (j : Int) : Int := if j < 0 then 0 else l.getD j.toNat 0
theorem P6 (l : List Int) (j : Int) : (j < 0 ∧ rK l j = 0) ∨ (¬ j < 0 ∧ (l.length : Int) ≤ j ∧ rK l j = 0) ∨ (¬ j < 0 ∧ ¬ (l.length : Int) ≤ j ∧ rK l j = l.getD j.toNat 0) := by
  unfold rK
  by_cases h1 : j < 0
  · exact .inl ⟨h1, if_pos h1⟩
  rw [if_neg h1]
  by_cases h2 : (l.length : Int) ≤ j
  · refine .inr (.inl ⟨h1, h2, ?_⟩)
    rw [List.getD_eq_getElem?_getD, List.getElem?_eq_none (by omega)]; rfl
  · exact .inr (.inr ⟨h1, h2, rfl⟩)
theorem Dd (l : List Int) (i back : Nat) : rK l ((i : Int) - (back : Int)) = gz l i back := by
  unfold rK gz
  by_cases h : i < back
  · rw [if_pos (by omega), if_pos h]
  · rw [if_neg (by omega), if_neg h, show ((i : Int) - (back : Int)).toNat = i - back by omega]
theorem Jd (l : List Int) (i : Nat) : rK l (i : Int) = l.getD i 0 := by
  unfold rK; rw [if_neg (by omega), Int.toNat_natCast]
theorem QM (kind a b c : Int) : (kind = 1 ∧ pE kind a b c = a) ∨ (kind ≠ 1 ∧ kind = 2 ∧ pE kind a b c = b) ∨ (kind ≠ 1 ∧ kind ≠ 2 ∧ kind = 3 ∧ pE kind a b c = (a + b) / 2) ∨ (kind ≠ 1 ∧ kind ≠ 2 ∧ kind ≠ 3 ∧ kind = 4 ∧ pE kind a b c = rI a b c) ∨ (kind ≠ 1 ∧ kind ≠ 2 ∧ kind ≠ 3 ∧ kind ≠ 4 ∧ pE kind a b c = 0) := by
  unfold pE
  by_cases h1 : kind = 1
  · exact .inl ⟨h1, if_pos h1⟩
  rw [if_neg h1]
  by_cases h2 : kind = 2
  · exact .inr (.inl ⟨h1, h2, if_pos h2⟩)
  rw [if_neg h2]
  by_cases h3 : kind = 3
  · exact .inr (.inr (.inl ⟨h1, h2, h3, if_pos h3⟩))
  rw [if_neg h3]
  by_cases h4 : kind = 4
  · exact .inr (.inr (.inr (.inl ⟨h1, h2, h3, h4, if_pos h4⟩)))
  · exact .inr (.inr (.inr (.inr ⟨h1, h2, h3, h4, if_neg h4⟩)))
def jO (kind : Int) (row above : List Int) (back i : Nat) : List Int := jw kind row above back i ++ List.replicate (row.length - i) 0
theorem Ef {kind : Int} {row above : List Int} {back i : Nat} (h : i ≤ row.length) : (jO kind row above back i).length = row.length := by
  unfold jO; rw [List.length_append, nc, List.length_replicate]; omega
theorem MA (kind : Int) (row above : List Int) (back : Nat) : jO kind row above back 0 = List.replicate row.length 0 := by simp [jO, jw]
theorem EB (kind : Int) (row above : List Int) (back : Nat) : jO kind row above back row.length = gk kind row above back := by simp [jO, gk]
theorem Fu {kind : Int} {row above : List Int} {back i : Nat} : au (jO kind row above back i) := fun x hx => by
  rcases List.mem_append.1 hx with h | h
  · exact r8 kind row above back i x h
  · rw [List.eq_of_mem_replicate h]; decide
theorem yK {a : List Int} {x v : Int} {b : List Int} {i : Nat} (ha : a.length = i) : (a ++ x :: b).set i v = a ++ v :: b := by
  subst ha; rw [List.set_append_right _ _ (Nat.le_refl _), Nat.sub_self]; rfl
theorem FV {kind : Int} {row above : List Int} {back i : Nat} (h : i < row.length) : (jO kind row above back i).set i (ks kind row above back (jw kind row above back i) i) = jO kind row above back (i + 1) := by
  unfold jO
  rw [show row.length - i = (row.length - (i + 1)) + 1 by omega, List.replicate_succ, yK (nc ..), jw, List.append_assoc]
  rfl
theorem Ij {kind : Int} {row above : List Int} {back i : Nat} (hb : 0 < back) : gz (jO kind row above back i) i back = gz (jw kind row above back i) i back := JY (nc ..) hb
def P3 (kind : Int) (row above : List Int) (back i : Nat) : List Int := jw kind row above back i ++ row.drop i
theorem HO {kind : Int} {row above : List Int} {back i : Nat} {x y : Int} (hx : x = row.getD i 0) (hy : y = pE kind (gz (jw kind row above back i) i back) (above.getD i 0) (gz above i back)) : (x + y) % 256 = ks kind row above back (jw kind row above back i) i := by rw [hx, hy]; rfl
end Go.aa

/- Walks of functions that the law reaches, and what they lean on; no conditions. -/
import Derived.Test.YtmbljkghkcgejaaGreatM32
import Derived.KernelRfl
set_option linter.unusedVariables false
set_option linter.unusedSimpArgs false
set_option maxRecDepth 100000
namespace Go.InfP
open Go.BitP Go.HuffP
def baseT : List Int := [3, 4, 5, 6, 7, 8, 9, 10, 11, 13, 15, 17, 19, 23, 27, 31, 35, 43, 51, 59, 67, 83, 99, 115, 131, 163, 195, 227, 258]
def moreT : List Int := [0, 0, 0, 0, 0, 0, 0, 0, 1, 1, 1, 1, 2, 2, 2, 2, 3, 3, 3, 3, 4, 4, 4, 4, 5, 5, 5, 5, 0]
structure Dn (B : List Int) (mo : Int) (S S' : St) : Prop where
 goes : Goes B mo S S'
 ok : Ok B mo S'
 kind : S'.kind = -1
 copies : S'.copies = 0
 ended : S'.ended = S'.last
 last : S'.last = S.last
structure In (B : List Int) (mo : Int) (S s : St) : Prop where
 goes : Goes B mo S s
 ok : Ok B mo s
 kind : s.kind = S.kind
 copies : s.copies = 0
 ended : s.ended = false
 last : s.last = S.last
 lits : s.lits = S.lits
 dist : s.dist = S.dist
section
variable {B : List Int} {mo e : Int} {S s s2 : St}
end
end Go.InfP
namespace Go.InfP
open Go.BitP Go.HuffP
inductive Bl (B : List Int) (mo : Int) : St → Except Int St → Prop
 | done {s : St} : s.kind = -1 → Bl B mo s (.ok s)
 | step {s s' : St} {o : Except Int St} : ¬ s.kind = -1 → one B mo s = .ok s' → Bl B mo s' o → Bl B mo s o
 | fail {s : St} {e : Int} : ¬ s.kind = -1 → one B mo s = .error e → Bl B mo s (.error e)
section
variable {B : List Int} {mo e : Int} {s s2 : St} {o : Except Int St}
structure Left (B : List Int) (mo : Int) (s s2 : St) : Prop where
 goes : Goes B mo s s2
 ok : Ok B mo s2
 kind : s2.kind = -1
 copies : s2.copies = 0
 ended : s2.ended = s2.last
 last : s2.last = s.last
 less : mu B s2 ≤ mu B s
end
def BO (B : List Int) (mo : Int) (S : St) (o : Except Int St) : Prop := (∃ e, begin_ B S = .error e ∧ o = .error e) ∨ (∃ S1, begin_ B S = .ok S1 ∧ Bl B mo S1 o)
section
variable {B : List Int} {mo e : Int} {S S1 : St} {o : Except Int St}
end
section
variable {B ds : List Int} {s d : Int} {a a3 n : Nat}
end
end Go.InfP
namespace Go.InfP
end Go.InfP
namespace Go.InfP
end Go.InfP
namespace Go.InfP
open Go.BitP
end Go.InfP
namespace Go.InfP
open Go.BitP Go.HuffP
def run (B : List Int) (mo : Int) : Nat → St → Option Oc
 | 0, _ => none
 | f + 1, s => if s.ended = true then some (.ok (s.out, (s.at_ + 7) / 8)) else match one B mo s with
  | .error e => some (.error e)
  | .ok s' => run B mo f s'
theorem run_sound {B : List Int} {mo : Int} : ∀ {f : Nat} {s : St} {o : Oc}, run B mo f s = some o → Runs B mo s o := by
 intro f
 induction f with
 | zero => intro s o h; cases h
 | succ f ih =>
  intro s o h
  unfold run at h
  split at h
  ·rename_i he; cases h; exact .done he
  ·rename_i he
   split at h
   ·rename_i e h1; cases h; exact .fail (by simpa using he) h1
   ·rename_i s' h1; exact .step (by simpa using he) h1 (ih h)
def runB (B : List Int) (mo : Int) (f : Nat) (q : List Int × Int × Int) : Bool := match run B mo f start with
 | some o => decide (Ou o = q)
 | none => false
theorem runB_res {B : List Int} {mo : Int} {f : Nat} {q : List Int × Int × Int} (hm : 0 ≤ mo) (h : runB B mo f q = true) : Res B mo q := by
 unfold runB at h
 split at h
 ·rename_i o ho; exact .inr ⟨hm, o, run_sound ho, (of_decide_eq_true h).symm⟩
 ·cases h
end Go.InfP
namespace Go.InfP
end Go.InfP
namespace Go.InfP
open Go.BitP Go.HuffP
section
variable {B : List Int} {mo mo' y : Int} {s s2 : St}
theorem put_mo (h : put_ mo s y = .ok s2) : ((s2.out.length : Int) ≤ mo' → put_ mo' s y = .ok s2) ∧ (mo' < s2.out.length → put_ mo' s y = .error 6) := by
 obtain ⟨k, rfl⟩ := put_ok h
 have hl : ({ s with out := s.out ++ [y] } : St).out.length = s.out.length + 1 := by simp
 rw [hl]
 exact ⟨fun h => put_yes (by omega), fun h => put_no (by omega)⟩
theorem coded_mo (h : coded B mo s = .ok s2) (hs : (s.out.length : Int) ≤ mo') : ((s2.out.length : Int) ≤ mo' → coded B mo' s = .ok s2) ∧ (mo' < s2.out.length → coded B mo' s = .error 6) := by
 rcases ex_or (sym s.lits B s.at_) with ⟨e, h1⟩ | ⟨⟨y, a⟩, h1⟩
 ·rw [cod_e h1] at h; cases h
 by_cases hy : y < 256
 ·rw [cod_put h1 hy] at h ⊢; exact put_mo h
 by_cases hy2 : y = 256
 ·rw [cod_end h1 hy2] at h ⊢; cases h; exact ⟨fun _ => rfl, fun k => by simp only at k; omega⟩
 rcases ex_or (lenE B (y - 257) a) with ⟨e, hn⟩ | ⟨⟨n, a2⟩, hn⟩
 ·rw [cod_l h1 (by omega) hn] at h; cases h
 rcases ex_or (awayE B s.dist a2) with ⟨e, hf⟩ | ⟨⟨f, a3⟩, hf⟩
 ·rw [cod_a h1 (by omega) hn hf] at h; cases h
 by_cases hfo : f ≤ s.out.length
 ·rw [cod_y h1 (by omega) hn hf hfo] at h ⊢; cases h; exact ⟨fun _ => rfl, fun k => by simp only at k; omega⟩
 ·rw [cod_n h1 (by omega) hn hf hfo] at h; cases h
theorem one_mo (h : one B mo s = .ok s2) (hs : (s.out.length : Int) ≤ mo') : ((s2.out.length : Int) ≤ mo' → one B mo' s = .ok s2) ∧ (mo' < s2.out.length → one B mo' s = .error 6) := by
 by_cases hc : 0 < s.copies
 ·unfold one at h ⊢; rw [if_pos hc] at h ⊢; exact put_mo h
 by_cases hk : s.kind = -1
 ·rw [one_b hc hk] at h ⊢
  refine ⟨fun _ => h, fun k => ?_⟩
  exfalso
  have : s2.out = s.out := by
   unfold begin_ at h
   split at h
   ·cases h
   split at h
   ·split at h
    ·cases h
    split at h
    ·cases h; rfl
    ·cases h
   split at h
   ·cases h; rfl
   split at h
   ·split at h
    ·cases h
    ·cases h; rfl
   ·cases h
  rw [this] at k; omega
 by_cases hk0 : s.kind = 0
 ·by_cases hl : s.left = 0
  ·rw [one_l0 hc hk hk0 hl] at h ⊢; cases h; exact ⟨fun _ => rfl, fun k => by simp only at k; omega⟩
  ·by_cases hx : 8 * B.length < s.at_ + 8
   ·rw [one_ls hc hk hk0 hl hx] at h; cases h
   ·rw [one_lp hc hk hk0 hl (by omega)] at h ⊢; exact put_mo h
 ·rw [one_c hc hk hk0] at h ⊢; exact coded_mo h hs
theorem runs_mo {o : Oc} (hB : Byt B) (h : Runs B mo s o) : Ok B mo s → ∀ x n, o = .ok (x, n) → s.out.length ≤ x.length ∧ ((x.length : Int) ≤ mo' → Runs B mo' s (.ok (x, n))) ∧ ((s.out.length : Int) ≤ mo' → mo' < x.length → Runs B mo' s (.error 6)) := by
 induction h with
 | done h => intro hok x n e; cases e; exact ⟨Nat.le_refl _, fun _ => .done h, fun h1 h2 => by omega⟩
 | step h1 h2 h3 ih =>
  intro hok x n e
  have hg := one_good hB hok h2
  obtain ⟨k1, k2, k3⟩ := ih hg.ok x n e
  have hle := hg.le
  refine ⟨by omega, fun k => .step h1 ((one_mo h2 (by omega)).1 (by omega)) (k2 k), fun q1 q2 => ?_⟩
  rename_i s' _
  by_cases hc : mo' < s'.out.length
  ·exact .fail h1 ((one_mo h2 q1).2 hc)
  ·exact .step h1 ((one_mo h2 q1).1 (by omega)) (k3 (by omega) q2)
 | fail _ _ => intro _ x n e; cases e
end
end Go.InfP
namespace Go.InfP
open Go.BitP Go.HuffP
section
variable {B : List Int}
theorem bitL_at (j i : Nat) (hi : i < 8) : bitL B (8 * j + i) = B.getD j 0 / 2 ^ i % 2 := by
 unfold bitL
 rw [show (8 * j + i) / 8 = j by omega, show (8 * j + i) % 8 = i by omega]
theorem numL_split (a m : Nat) : ∀ n, numL B a (m + n) = numL B a m + numL B (a + m) n * 2 ^ m
 | 0 => by simp [numL]
 | n + 1 => by
  have := numL_split a m n
  show numL B a (m + n) + bitL B (a + (m + n)) * 2 ^ (m + n) = numL B a m + (numL B (a + m) n + bitL B (a + m + n) * 2 ^ n) * 2 ^ m
  rw [this, Int.add_mul, Int.add_assoc, Nat.add_assoc a m n, Int.mul_assoc, ← Int.pow_add, Nat.add_comm n m]
theorem numL_8 {j : Nat} (hb : 0 ≤ B.getD j 0 ∧ B.getD j 0 < 256) : numL B (8 * j) 8 = B.getD j 0 := by
 simp only [numL]
 rw [show 8 * j + 0 = 8 * j + 0 from rfl, bitL_at j 0 (by omega), bitL_at j 1 (by omega), bitL_at j 2 (by omega), bitL_at j 3 (by omega), bitL_at j 4 (by omega), bitL_at j 5 (by omega), bitL_at j 6 (by omega), bitL_at j 7 (by omega)]
 generalize B.getD j 0 = b at hb ⊢
 simp only [show (2 : Int) ^ 0 = 1 from rfl, show (2 : Int) ^ 1 = 2 from rfl, show (2 : Int) ^ 2 = 4 from rfl, show (2 : Int) ^ 3 = 8 from rfl, show (2 : Int) ^ 4 = 16 from rfl, show (2 : Int) ^ 5 = 32 from rfl, show (2 : Int) ^ 6 = 64 from rfl, show (2 : Int) ^ 7 = 128 from rfl]
 omega
theorem numL_16 {j : Nat} (hb : 0 ≤ B.getD j 0 ∧ B.getD j 0 < 256) (hc : 0 ≤ B.getD (j + 1) 0 ∧ B.getD (j + 1) 0 < 256) : numL B (8 * j) 16 = B.getD j 0 + 256 * B.getD (j + 1) 0 := by
 rw [show (16 : Nat) = 8 + 8 from rfl, numL_split, numL_8 hb, show 8 * j + 8 = 8 * (j + 1) by omega, numL_8 hc]
 omega
theorem puts_all {mo : Int} (hB : Byt B) : ∀ (X : List Int) {s : St} {pos : Nat}, s.kind = 0 → s.copies = 0 → s.ended = false → s.left = X.length → s.at_ = 8 * pos → (∀ i, i < X.length → B.getD (pos + i) 0 = X.getD i 0) → pos + X.length ≤ B.length → (s.out.length : Int) + X.length ≤ mo →
  ∃ s', Goes B mo s s' ∧ s'.at_ = 8 * (pos + X.length) ∧ s'.out = s.out ++ X ∧ s'.kind = -1 ∧ s'.copies = 0 ∧ s'.ended = s.last := by
 intro X
 induction X with
 | nil =>
  intro s pos hk hc he hl ha hx hp hm
  have h1 := one_l0 (B := B) (mo := mo) (s := s) (by omega) (by omega) hk hl
  exact ⟨_, Goes.one he h1, by simpa using ha, by simp, rfl, hc, rfl⟩
 | cons x X ih =>
  intro s pos hk hc he hl ha hx hp hm
  have hx0 : B.getD pos 0 = x := by simpa using hx 0 (by simp)
  have hp2 : pos + (X.length + 1) ≤ B.length := by simpa using hp
  have hl2 : s.left = X.length + 1 := by simpa using hl
  have hm2 : (s.out.length : Int) + (X.length + 1) ≤ mo := by simpa using hm
  have h1 := one_ly (B := B) (mo := mo) (s := s) (by omega) (by omega) hk (by omega) (by omega) (by omega)
  rw [ha, numL_8 (hB.get pos), hx0] at h1
  obtain ⟨s', g, a1, a2, a3, a4, a5⟩ := ih (s := { s with at_ := 8 * pos + 8, left := s.left - 1, out := s.out ++ [x] }) (pos := pos + 1) hk hc he (by show s.left - 1 = X.length; omega) (by show 8 * pos + 8 = 8 * (pos + 1); omega) (fun i hi => by
   have := hx (i + 1) (by simp; omega)
   rw [show pos + 1 + i = pos + (i + 1) by omega, this]; simp) (by omega) (by show ((s.out ++ [x]).length : Int) + X.length ≤ mo; simp; omega)
  exact ⟨s', (Goes.one he h1).trans g, by rw [a1]; simp; omega, by rw [a2]; simp, a3, a4, a5⟩
def blkB (la : Int) (X : List Int) : List Int := [la, (X.length : Int) % 256, (X.length : Int) / 256, 255 - (X.length : Int) % 256, 255 - (X.length : Int) / 256] ++ X
theorem blkB_len (la : Int) (X : List Int) : (blkB la X).length = 5 + X.length := by simp [blkB]; omega
theorem block_all {mo : Int} (hB : Byt B) {s : St} {pos : Nat} {la : Int} {X : List Int} (hla : la = 0 ∨ la = 1) (hX : X.length ≤ 65535) (hk : s.kind = -1) (hc : s.copies = 0) (he : s.ended = false) (ha : s.at_ = 8 * pos) (hx : ∀ i, i < (blkB la X).length → B.getD (pos + i) 0 = (blkB la X).getD i 0) (hp : pos + (blkB la X).length ≤ B.length) (hm : (s.out.length : Int) + X.length ≤ mo) :
  ∃ s', Goes B mo s s' ∧ s'.at_ = 8 * (pos + (blkB la X).length) ∧ s'.out = s.out ++ X ∧ s'.kind = -1 ∧ s'.copies = 0 ∧ s'.ended = decide (la = 1) := by
 have hbl := blkB_len la X
 have b0 : B.getD pos 0 = la := by simpa [blkB] using hx 0 (by omega)
 have b1 : B.getD (pos + 1) 0 = (X.length : Int) % 256 := by simpa [blkB] using hx 1 (by omega)
 have b2 : B.getD (pos + 2) 0 = (X.length : Int) / 256 := by simpa [blkB] using hx 2 (by omega)
 have b3 : B.getD (pos + 3) 0 = 255 - (X.length : Int) % 256 := by simpa [blkB] using hx 3 (by omega)
 have b4 : B.getD (pos + 4) 0 = 255 - (X.length : Int) / 256 := by simpa [blkB] using hx 4 (by omega)
 have e0 : numL B s.at_ 1 = la := by
  rw [ha, numL_one, show 8 * pos = 8 * pos + 0 from rfl, bitL_at pos 0 (by omega), b0]
  rcases hla with rfl | rfl <;> rfl
 have e1 : numL B (s.at_ + 1) 2 = 0 := by
  rw [ha]
  simp only [numL]
  rw [show 8 * pos + 1 + 0 = 8 * pos + 1 from rfl, show 8 * pos + 1 + 1 = 8 * pos + 2 from rfl, bitL_at pos 1 (by omega), bitL_at pos 2 (by omega), b0]
  rcases hla with rfl | rfl <;> rfl
 have hal : alg (s.at_ + 3) = 8 * (pos + 1) := by rw [alg_eq, ha]; omega
 have n1 : numL B (alg (s.at_ + 3)) 16 = (X.length : Int) := by rw [hal, numL_16 (hB.get _) (hB.get _), b1, show pos + 1 + 1 = pos + 2 from rfl, b2]; omega
 have n2 : numL B (alg (s.at_ + 3) + 16) 16 = 65535 - (X.length : Int) := by rw [hal, show 8 * (pos + 1) + 16 = 8 * (pos + 3) by omega, numL_16 (hB.get _) (hB.get _), b3, show pos + 3 + 1 = pos + 4 from rfl, b4]; omega
 have hb := beg_0y (B := B) (s := s) (by omega) e1 (by omega) (by rw [n1, n2]; omega)
 have h1 := (one_b (B := B) (mo := mo) (s := s) (by omega) hk).trans hb
 rw [n1, e0, hal] at h1
 obtain ⟨s', g, a1, a2, a3, a4, a5⟩ := puts_all (mo := mo) hB X (s := { s with at_ := 8 * (pos + 1) + 32, kind := 0, left := ((X.length : Int)).toNat, last := decide (la = 1) }) (pos := pos + 5) rfl hc he (by show ((X.length : Int)).toNat = X.length; omega) (by show 8 * (pos + 1) + 32 = 8 * (pos + 5); omega) (fun i hi => by
  have := hx (5 + i) (by omega)
  rw [show pos + 5 + i = pos + (5 + i) by omega, this]; simp [blkB, Nat.add_comm 5 i]) (by omega) hm
 exact ⟨s', (Goes.one he h1).trans g, by rw [a1]; omega, a2, a3, a4, a5⟩
def blks : List (List Int) → List Int
 | [] => []
 | [X] => blkB 1 X
 | X :: Y :: L => blkB 0 X ++ blks (Y :: L)
theorem getD_app (a b : List Int) (i : Nat) (h : i < a.length) : (a ++ b).getD i 0 = a.getD i 0 := by
 rw [List.getD_eq_getElem?_getD, List.getElem?_append_left h, ← List.getD_eq_getElem?_getD]
theorem getD_app2 (a b : List Int) (i : Nat) : (a ++ b).getD (a.length + i) 0 = b.getD i 0 := by
 rw [List.getD_eq_getElem?_getD, List.getElem?_append_right (by omega), Nat.add_sub_cancel_left, ← List.getD_eq_getElem?_getD]
theorem blks_all {mo : Int} (hB : Byt B) : ∀ (L : List (List Int)) {s : St} {pos : Nat}, L ≠ [] → (∀ X ∈ L, X.length ≤ 65535) → s.kind = -1 → s.copies = 0 → s.ended = false → s.at_ = 8 * pos → (∀ i, i < (blks L).length → B.getD (pos + i) 0 = (blks L).getD i 0) → pos + (blks L).length ≤ B.length → (s.out.length : Int) + L.flatten.length ≤ mo →
  ∃ s', Goes B mo s s' ∧ s'.at_ = 8 * (pos + (blks L).length) ∧ s'.out = s.out ++ L.flatten ∧ s'.ended = true := by
 intro L
 induction L with
 | nil => intro s pos h; exact (h rfl).elim
 | cons X L ih =>
  intro s pos _ hL hk hc he ha hx hp hm
  cases L with
  | nil =>
   obtain ⟨s', g, a1, a2, a3, a4, a5⟩ := block_all (mo := mo) hB (.inr rfl) (hL X (List.mem_cons_self ..)) hk hc he ha hx hp (by simpa using hm)
   exact ⟨s', g, a1, by simpa using a2, a5⟩
  | cons Y L =>
   have hlen : (blks (X :: Y :: L)).length = (blkB 0 X).length + (blks (Y :: L)).length := by simp [blks]
   have hfl : (X :: Y :: L).flatten.length = X.length + (Y :: L).flatten.length := by simp
   obtain ⟨s', g, a1, a2, a3, a4, a5⟩ := block_all (mo := mo) hB (.inl rfl) (hL X (List.mem_cons_self ..)) hk hc he ha (fun i hi => by rw [hx i (by omega)]; exact getD_app _ _ _ hi) (by omega) (by omega)
   obtain ⟨s2, g2, c1, c2, c3⟩ := ih (s := s') (pos := pos + (blkB 0 X).length) (by simp) (fun Z hZ => hL Z (List.mem_cons_of_mem _ hZ)) a3 a4 (by rw [a5]; rfl) a1 (fun i hi => by
    rw [show pos + (blkB 0 X).length + i = pos + ((blkB 0 X).length + i) by omega, hx _ (by omega)]; exact getD_app2 _ _ _) (by omega) (by rw [a2]; simp only [List.length_append]; omega)
   exact ⟨s2, g.trans g2, by rw [c1, hlen]; omega, by rw [c2, a2]; simp, c3⟩
end
theorem blkB_byt {la : Int} {X : List Int} (hla : la = 0 ∨ la = 1) (hX : X.length ≤ 65535) (h : Byt X) : Byt (blkB la X) := by
 intro x hx
 unfold blkB at hx
 rcases List.mem_append.1 hx with hx | hx
 ·simp only [List.mem_cons, List.not_mem_nil, or_false] at hx
  rcases hx with rfl | rfl | rfl | rfl | rfl <;> omega
 ·exact h x hx
theorem blks_byt : ∀ (L : List (List Int)), (∀ X ∈ L, X.length ≤ 65535 ∧ Byt X) → Byt (blks L)
 | [], _ => fun x hx => by cases hx
 | [X], h => blkB_byt (.inr rfl) (h X (List.mem_cons_self ..)).1 (h X (List.mem_cons_self ..)).2
 | X :: Y :: L, h => fun x hx => by
  rcases List.mem_append.1 hx with hx | hx
  ·exact blkB_byt (.inl rfl) (h X (List.mem_cons_self ..)).1 (h X (List.mem_cons_self ..)).2 x hx
  ·exact blks_byt (Y :: L) (fun Z hZ => h Z (List.mem_cons_of_mem _ hZ)) x hx
theorem blks_res {L : List (List Int)} (hne : L ≠ []) (hL : ∀ X ∈ L, X.length ≤ 65535 ∧ Byt X) {t : List Int} (ht : Byt t) : Res (blks L ++ t) L.flatten.length (L.flatten, ((blks L).length : Int), 0) ∧ ∀ mo : Int, 0 ≤ mo → mo < L.flatten.length → Res (blks L ++ t) mo ([], 0, 6) := by
 have hB : Byt (blks L ++ t) := fun x hx => by
  rcases List.mem_append.1 hx with hx | hx
  ·exact blks_byt L hL x hx
  ·exact ht x hx
 obtain ⟨s', g, a1, a2, a3⟩ := blks_all (mo := L.flatten.length) hB L (s := start) (pos := 0) hne (fun X hX => (hL X hX).1) rfl rfl rfl rfl (fun i hi => by rw [Nat.zero_add]; exact getD_app _ _ _ hi) (by rw [List.length_append]; omega) (by show ((0 : Nat) : Int) + _ ≤ _; omega)
 have hr : Runs (blks L ++ t) L.flatten.length start (.ok (L.flatten, (blks L).length)) := by
  have := g _ (.done a3)
  rw [a2, a1, show (8 * (0 + (blks L).length) + 7) / 8 = (blks L).length by omega, show start.out ++ L.flatten = L.flatten from rfl] at this
  exact this
 refine ⟨.inr ⟨by omega, _, hr, rfl⟩, fun mo h0 h1 => ?_⟩
 have hm := (runs_mo (mo' := mo) hB hr (start_ok (by omega)) _ _ rfl).2.2 (by show ((0 : Nat) : Int) ≤ mo; omega) h1
 exact .inr ⟨h0, _, hm, rfl⟩
def blkI (L : List (List Int)) : Nat → List Int
 | 0 => []
 | i + 1 => blkI L i ++ blkB (if i + 1 = L.length then 1 else 0) (L.getD i [])
end Go.InfP
namespace Go.InfP
open Go.BitP Go.HuffP
structure Bk (L : List (List Int)) (i : Nat) : Prop where
 le : i ≤ L.length
 few : ∀ j, j < i → (L.getD j []).length ≤ 1000
 byt : ∀ j, j < i → Byt (L.getD j [])
 wlen : (L.take i).flatten.length ≤ 1000 * i
 blen : (blkI L i).length ≤ 1005 * i
end Go.InfP
namespace Go.BitP
theorem bit_set {out : List Int} {j p : Nat} {c : Int} (hB : Byt out) (hj : j < out.length) (hp : p < 8) (hb : 0 ≤ c ∧ c ≤ 1) (hz : bitL out (8 * j + p) = 0) : (∀ i, bitL (out.set j (orB (out.getD j 0) c p)) i = if i = 8 * j + p then c else bitL out i) ∧ Byt (out.set j (orB (out.getD j 0) c p)) := by
 have hx := hB.get j
 unfold bitL at hz
 rw [show (8 * j + p) / 8 = j by omega, show (8 * j + p) % 8 = p by omega] at hz
 obtain ⟨x, hxe⟩ : ∃ x : Nat, out.getD j 0 = (x : Int) := ⟨(out.getD j 0).toNat, by omega⟩
 obtain ⟨c, rfl⟩ : ∃ c' : Nat, c = (c' : Int) := ⟨c.toNat, by omega⟩
 rw [hxe] at hz hx
 have ez : ∀ q : Nat, (x : Int) / 2 ^ q % 2 = ((x / 2 ^ q % 2 : Nat) : Int) := fun q => by simp
 rw [ez] at hz
 have hor : orB (out.getD j 0) (c : Int) p = ((x ||| c * 2 ^ p : Nat) : Int) := by rw [hxe]; simp only [orB, Int.toNat_natCast]
 rw [hor]
 refine ⟨fun i => ?_, fun y hy => ?_⟩
 ·unfold bitL
  simp only [List.getD_eq_getElem?_getD, List.getElem?_set]
  by_cases hi : j = i / 8
  ·rw [if_pos hi, if_pos hj]
   simp only [Option.getD_some]
   have e3 : ((x ||| c * 2 ^ p : Nat) : Int) / 2 ^ (i % 8) % 2 = (((x ||| c * 2 ^ p) / 2 ^ (i % 8) % 2 : Nat) : Int) := by simp
   rw [e3, lor_bit (by omega) (by omega)]
   by_cases hq : i % 8 = p
   ·rw [if_pos hq, if_pos (by omega)]
   ·rw [if_neg hq, if_neg (by omega), ← hi]
    rw [List.getD_eq_getElem?_getD] at hxe
    rw [hxe, ez]
  ·rw [if_neg hi, if_neg (by omega)]
 ·rcases List.mem_or_eq_of_mem_set hy with hy | rfl
  ·exact hB y hy
  ·have := lor_lt (x := x) (b := c) (p := p) (by omega) (by omega) hp
   omega
structure Po (bs : List Int) (i : Nat) (o : List Int) : Prop where
 len : o.length = (bs.length + 7) / 8
 byt : Byt o
 get : ∀ k, k < i → bitL o k = bs.getD k 0
 zero : ∀ k, i ≤ k → bitL o k = 0
theorem Po.zero_ (bs : List Int) : Po bs 0 (List.replicate ((bs.length + 7) / 8) 0) := ⟨by simp, fun x hx => by rw [List.eq_of_mem_replicate hx]; omega, fun k h => by omega, fun k _ => by
 unfold bitL
 have : (List.replicate ((bs.length + 7) / 8) (0 : Int)).getD (k / 8) 0 = 0 := by
  rw [List.getD_eq_getElem?_getD, List.getElem?_replicate]
  split <;> rfl
 rw [this]; simp⟩
theorem Po.step {bs o : List Int} {i : Nat} (h : Po bs i o) (hi : i < bs.length) (hb : 0 ≤ bs.getD i 0 ∧ bs.getD i 0 ≤ 1) : Po bs (i + 1) (o.set (i / 8) (orB (o.getD (i / 8) 0) (bs.getD i 0) (i % 8))) := by
 have hl := h.len
 obtain ⟨h1, h2⟩ := bit_set (j := i / 8) (p := i % 8) h.byt (by omega) (by omega) hb (h.zero _ (by omega))
 refine ⟨by simp [hl], h2, fun k hk => ?_, fun k hk => ?_⟩
 ·rw [h1]
  by_cases e : k = i
  ·rw [if_pos (by omega), e]
  ·rw [if_neg (by omega)]; exact h.get k (by omega)
 ·rw [h1, if_neg (by omega)]; exact h.zero k (by omega)
end Go.BitP
namespace Go.InfP
open Go.BitP Go.HuffP
def fxX (s : Int) : Int := if 280 ≤ s then 192 + s - 280 else if 256 ≤ s then s - 256 else if 144 ≤ s then 400 + s - 144 else 48 + s
def fxN (s : Int) : Nat := if 280 ≤ s then 8 else if 256 ≤ s then 7 else if 144 ≤ s then 9 else 8
theorem fxN_le (s : Int) : 7 ≤ fxN s ∧ fxN s ≤ 9 := by unfold fxN; split <;> (try split) <;> (try split) <;> omega
theorem fx_lens : (List.range 288).all (fun k => decide (fixL.getD k 0 = (fxN (k : Nat) : Int))) = true := by kernel_rfl
theorem fx_len {k : Nat} (h : k < 288) : fixL.getD k 0 = (fxN (k : Int) : Int) := by
 have := List.all_eq_true.1 fx_lens k (List.mem_range.2 h)
 simpa using this
theorem fx_cls : ∀ k : Nat, k ≤ 288 → ((cls (fixL.take k) 7).length = (if k ≤ 256 then 0 else if k ≤ 280 then k - 256 else 24)) ∧ ((cls (fixL.take k) 8).length = (if k ≤ 144 then k else if k ≤ 280 then 144 else k - 136)) ∧ ((cls (fixL.take k) 9).length = (if k ≤ 144 then 0 else if k ≤ 256 then k - 144 else 112)) := by
 intro k
 induction k with
 | zero => intro _; simp [cls_zero]
 | succ k ih =>
  intro hk
  obtain ⟨h1, h2, h3⟩ := ih (by omega)
  have hlt : k < fixL.length := by rw [fixL_len]; omega
  have hg : fixL[k] = (fxN (k : Int) : Int) := by
   rw [← fx_len (by omega)]
   simp [List.getD_eq_getElem?_getD, hlt]
  have key : ∀ n : Nat, (cls (fixL.take (k + 1)) n).length = (cls (fixL.take k) n).length + (if fxN (k : Int) = n then 1 else 0) := by
   intro n
   rw [cls_snoc hlt, hg, List.length_append]
   by_cases e : fxN (k : Int) = n
   ·rw [if_pos e, if_pos (by omega)]; rfl
   ·rw [if_neg e, if_neg (by omega)]; rfl
  have hn : fxN (k : Int) = (if 280 ≤ k then 8 else if 256 ≤ k then 7 else if 144 ≤ k then 9 else 8) := by
   unfold fxN
   by_cases c1 : 280 ≤ k
   ·rw [if_pos (by omega), if_pos c1]
   ·rw [if_neg (by omega), if_neg c1]
    by_cases c2 : 256 ≤ k
    ·rw [if_pos (by omega), if_pos c2]
    ·rw [if_neg (by omega), if_neg c2]
     by_cases c3 : 144 ≤ k
     ·rw [if_pos (by omega), if_pos c3]
     ·rw [if_neg (by omega), if_neg c3]
  by_cases c1 : 280 ≤ k
  ·rw [if_pos c1] at hn; rw [key, key, key, h1, h2, h3, hn, if_neg (show ¬ (8 : Nat) = 7 by decide), if_pos rfl, if_neg (show ¬ (8 : Nat) = 9 by decide)]; clear h1 h2 h3 key hg ih hn; (refine ⟨?_, ?_, ?_⟩ <;> (repeat' split)) <;> omega
  ·rw [if_neg c1] at hn
   by_cases c2 : 256 ≤ k
   ·rw [if_pos c2] at hn; rw [key, key, key, h1, h2, h3, hn, if_pos rfl, if_neg (show ¬ (7 : Nat) = 8 by decide), if_neg (show ¬ (7 : Nat) = 9 by decide)]; clear h1 h2 h3 key hg ih hn; (refine ⟨?_, ?_, ?_⟩ <;> (repeat' split)) <;> omega
   ·rw [if_neg c2] at hn
    by_cases c3 : 144 ≤ k
    ·rw [if_pos c3] at hn; rw [key, key, key, h1, h2, h3, hn, if_neg (show ¬ (9 : Nat) = 7 by decide), if_neg (show ¬ (9 : Nat) = 8 by decide), if_pos rfl]; clear h1 h2 h3 key hg ih hn; (refine ⟨?_, ?_, ?_⟩ <;> (repeat' split)) <;> omega
    ·rw [if_neg c3] at hn; rw [key, key, key, h1, h2, h3, hn, if_neg (show ¬ (8 : Nat) = 7 by decide), if_pos rfl, if_neg (show ¬ (8 : Nat) = 9 by decide)]; clear h1 h2 h3 key hg ih hn; (refine ⟨?_, ?_, ?_⟩ <;> (repeat' split)) <;> omega
theorem fx_zero (n : Nat) (hn : n < 7) (h1 : 1 ≤ n) : (cls fixL n) = [] := by
 cases h : cls fixL n with
 | nil => rfl
 | cons x l =>
  exfalso
  have hx : x ∈ cls fixL n := by rw [h]; exact List.mem_cons_self ..
  obtain ⟨k1, k2, k3⟩ := cls_mem.1 hx
  rw [fixL_len] at k2
  rw [fx_len k2] at k3
  have := fxN_le ((x.toNat : Nat) : Int)
  omega
theorem fx_base : base fixL 7 = 0 ∧ base fixL 8 = 48 ∧ base fixL 9 = 400 := by
 have hc := fx_cls 288 (Nat.le_refl _)
 rw [List.take_of_length_le (by rw [fixL_len]; decide)] at hc
 have z : ∀ n, n < 7 → cnt fixL n = 0 := by
  intro n hn
  unfold cnt
  by_cases e : n = 0
  ·rw [if_pos e]
  ·rw [if_neg e, fx_zero n hn (by omega)]; rfl
 have c7 : cnt fixL 7 = 24 := by unfold cnt; rw [if_neg (by decide), hc.1]; rfl
 have c8 : cnt fixL 8 = 152 := by unfold cnt; rw [if_neg (by decide), hc.2.1]; rfl
 have b7 : base fixL 7 = 0 := by simp only [base]; rw [z 0 (by decide), z 1 (by decide), z 2 (by decide), z 3 (by decide), z 4 (by decide), z 5 (by decide), z 6 (by decide)]; rfl
 have b8 : base fixL 8 = 48 := by rw [show base fixL 8 = 2 * (base fixL 7 + cnt fixL 7) from rfl, b7, c7]; rfl
 exact ⟨b7, b8, by rw [show base fixL 9 = 2 * (base fixL 8 + cnt fixL 8) from rfl, b8, c8]; rfl⟩
theorem fx_at {s : Int} (h : 0 ≤ s ∧ s < 288) : lkW fixL s = fxX s ∧ (lkN fixL s).toNat = fxN s ∧ lkB fixL s = true := by
 have hV := (newE_vl fixL_ok).1
 obtain ⟨p1, p2⟩ := pf_ok hV h.1 (by rw [fixL_len]; omega)
 have hl := fx_len (k := s.toNat) (by omega)
 rw [Int.toNat_of_nonneg h.1] at hl
 have hle := fxN_le s
 rw [hl] at p1 p2
 have hb : lkB fixL s = true := by rw [p1]; exact decide_eq_true (by omega)
 refine ⟨?_, by rw [p2]; simp, hb⟩
 have hlen : lenOf fixL s.toNat = fxN s := by unfold lenOf; rw [hl]; simp
 have hw : lkW fixL s = wordOf fixL s.toNat := by
  unfold lkW
  rw [if_pos ⟨h.1, by rw [fixL_len]; omega⟩]
  unfold wd
  rw [if_pos (by rw [hlen]; omega)]
 rw [hw]
 unfold wordOf
 rw [hlen]
 obtain ⟨c7, c8, c9⟩ := fx_cls s.toNat (by omega)
 obtain ⟨b7, b8, b9⟩ := fx_base
 unfold fxN fxX
 by_cases c1 : 280 ≤ s
 ·rw [if_pos c1, if_pos c1, b8, c8]; clear c7 c8 c9; (repeat' split) <;> omega
 ·rw [if_neg c1, if_neg c1]
  by_cases c2 : 256 ≤ s
  ·rw [if_pos c2, if_pos c2, b7, c7]; clear c7 c8 c9; (repeat' split) <;> omega
  ·rw [if_neg c2, if_neg c2]
   by_cases c3 : 144 ≤ s
   ·rw [if_pos c3, if_pos c3, b9, c9]; clear c7 c8 c9; (repeat' split) <;> omega
   ·rw [if_neg c3, if_neg c3, b8, c8]; clear c7 c8 c9; (repeat' split) <;> omega
theorem fd_all : ∀ k : Nat, k < 32 → lkW fixD k = k ∧ lkN fixD k = 5 ∧ lkB fixD k = true := by decide +kernel
theorem fd_at {s : Int} (h : 0 ≤ s ∧ s < 32) : lkW fixD s = s ∧ (lkN fixD s).toNat = 5 ∧ lkB fixD s = true := by
 have := fd_all s.toNat (by omega)
 rw [Int.toNat_of_nonneg h.1] at this
 refine ⟨this.1, by rw [this.2.1]; rfl, this.2.2⟩
structure Pq (bs o : List Int) : Prop where
 byt : Byt o
 len : bs.length ≤ 8 * o.length
 get : ∀ i, i < bs.length → bitL o i = bs.getD i 0
section
variable {bs o u w r out : List Int} {mo s y d : Int} {z : St}
theorem pq_at (h : Pq bs o) (e : bs = u ++ w ++ r) : (∀ i, i < w.length → bitL o (u.length + i) = w.getD i 0) ∧ u.length + w.length ≤ 8 * o.length := by
 have hl := h.len
 have hbl : bs.length = u.length + w.length + r.length := by rw [e]; simp only [List.length_append]
 refine ⟨fun i hi => ?_, by omega⟩
 rw [h.get _ (by omega), e, List.append_assoc, getD_app2, getD_app _ _ _ hi]
theorem sym_wb {ls : List Int} (hE : newE ls = 0) (h0 : 0 ≤ s) (h1 : s < ls.length) (hb : lkB ls s = true) (h : Pq bs o) (e : bs = u ++ wb ls s ++ r) : sym ls o u.length = .ok (s, (u ++ wb ls s).length) := by
 obtain ⟨k1, k2⟩ := pq_at h e
 unfold sym
 rw [tk_word hE h0 h1 hb k1 k2, List.length_append]
structure Rd (o : List Int) (mo : Int) (z : St) (a : Nat) (out : List Int) : Prop where
 goes : Goes o mo start z
 at_ : z.at_ = a
 out : z.out = out
 kind : z.kind = 1
 copies : z.copies = 0
 ended : z.ended = false
 last : z.last = true
 lits : z.lits = fixL
 dist : z.dist = fixD
theorem rd_begin (h : Pq bs o) (e : bs = lowB 3 3 ++ r) : ∃ z, Rd o mo z 3 [] := by
 obtain ⟨k1, k2⟩ := pq_at (u := []) (w := lowB 3 3) (r := r) h (by rw [e]; rfl)
 have e0 := k1 0 (by decide)
 have e1 := k1 1 (by decide)
 have e2 := k1 2 (by decide)
 simp only [List.length_nil, Nat.zero_add] at e0 e1 e2
 have d0 : (lowB 3 3).getD 0 0 = 1 := rfl
 have d1 : (lowB 3 3).getD 1 0 = 1 := rfl
 have d2 : (lowB 3 3).getD 2 0 = 0 := rfl
 have hl3 : (lowB 3 3).length = 3 := rfl
 rw [List.length_nil, hl3] at k2
 have n1 : numL o start.at_ 1 = 1 := by show numL o 0 1 = 1; rw [numL_one, e0, d0]
 have n2 : numL o (start.at_ + 1) 2 = 1 := by
  show numL o 1 2 = 1
  simp only [numL]
  rw [show 1 + 0 = 1 from rfl, show 1 + 1 = 2 from rfl, e1, e2, d1, d2]
  rfl
 have hb := beg_f (B := o) (s := start) (by show 0 + 3 ≤ _; omega) n2
 have h1 := (one_b (B := o) (mo := mo) (s := start) (by decide) rfl).trans hb
 refine ⟨_, Goes.one rfl h1, rfl, rfl, rfl, rfl, rfl, ?_, rfl, rfl⟩
 show decide (numL o start.at_ 1 = 1) = true
 rw [n1]; rfl
def cpy (d : Nat) : Nat → List Int → List Int
 | 0, l => l
 | k + 1, l => cpy d k (l ++ [l.getD (l.length - d) 0])
theorem go_copies {o : List Int} {mo : Int} : ∀ (n : Nat) {z : St}, z.copies = n → z.ended = false → (z.out.length : Int) + n ≤ mo → ∃ z', Goes o mo z z' ∧ z'.at_ = z.at_ ∧ z'.out = cpy z.far n z.out ∧ z'.kind = z.kind ∧ z'.copies = 0 ∧ z'.ended = false ∧ z'.last = z.last ∧ z'.lits = z.lits ∧ z'.dist = z.dist := by
 intro n
 induction n with
 | zero => intro z hc he hm; exact ⟨z, Goes.refl _ _ _, rfl, rfl, rfl, hc, he, rfl, rfl, rfl⟩
 | succ n ih =>
  intro z hc he hm
  have h1 := one_cy (B := o) (mo := mo) (s := z) (by omega) (by omega)
  obtain ⟨z', g, a1, a2, a3, a4, a5, a6, a7, a8⟩ := ih (z := { z with copies := z.copies - 1, out := z.out ++ [z.out.getD (z.out.length - z.far) 0] }) (by show z.copies - 1 = n; omega) he (by simp; omega)
  exact ⟨z', (Goes.one he h1).trans g, a1, a2, a3, a4, a5, a6, a7, a8⟩
def rowB (n d : Int) : List Int := wb fixL (254 + n) ++ wb fixD (d - 1)
end
def rowsB (d : Int) : List Int → List Int
 | [] => []
 | m :: l => rowB (3 + m % 8) d ++ rowsB d l
def rowsO (d : Int) : List Int → List Int → List Int
 | [], out => out
 | m :: l, out => rowsO d l (cpy d.toNat (3 + m % 8).toNat out)
def runsB (head : List Int) (d : Int) (l : List Int) : List Int := lowB 3 3 ++ HuffP.bits fixL head ++ rowsB d l
end Go.InfP
namespace Go.InfP
open Go.BitP Go.HuffP
theorem take_next {l : List Int} {i : Nat} (h : i < l.length) : l.take (i + 1) = l.take i ++ [l.getD i 0] := by
 rw [List.take_succ_eq_append_getElem h]
 simp [List.getD_eq_getElem?_getD, h]
def B01 (l : List Int) : Prop := ∀ x ∈ l, 0 ≤ x ∧ x ≤ 1
theorem B01.get {l : List Int} (h : B01 l) (i : Nat) : 0 ≤ l.getD i 0 ∧ l.getD i 0 ≤ 1 := by
 rw [List.getD_eq_getElem?_getD]
 cases e : l[i]? with
 | none => simp
 | some x => exact h x (List.mem_of_getElem? e)
theorem B01.app {a b : List Int} (h : B01 a) (k : B01 b) : B01 (a ++ b) := fun x hx => by
 rcases List.mem_append.1 hx with hx | hx
 ·exact h x hx
 ·exact k x hx
theorem low_01 (x : Int) (n : Nat) : B01 (lowB x n) := fun y hy => by
 unfold lowB at hy
 obtain ⟨i, _, rfl⟩ := List.mem_map.1 hy
 omega
end Go.InfP
namespace Go.InfP
open Go.BitP Go.HuffP
end Go.InfP
namespace Go.DefP
open Go.BitP Go.HuffP Go.InfP
def x3 (x y z : Int) : Int := IntKind.u32.wrap ((BitVec.ofInt IntKind.u32.bits (IntKind.u32.wrap ((BitVec.ofInt IntKind.u32.bits (IntKind.u32.wrap (x * 2 ^ (min (16 : Int).toNat IntKind.u32.bits))) ||| BitVec.ofInt IntKind.u32.bits (IntKind.u32.wrap (y * 2 ^ (min (8 : Int).toNat IntKind.u32.bits)))).toNat : Int)) ||| BitVec.ofInt IntKind.u32.bits z).toNat : Int)
def hs3 (x y z : Int) : Int := (IntKind.u32.wrap (x3 x y z * 2654435761)).fdiv (2 ^ (min (19 : Int).toNat IntKind.u32.bits))
theorem u32_in (x : Int) : 0 ≤ IntKind.u32.wrap x ∧ IntKind.u32.wrap x < 4294967296 := by
 have e : IntKind.u32.wrap x = x % 4294967296 := by simp [IntKind.wrap, IntKind.bits, IntKind.signed]
 rw [e]; omega
theorem hs3_in (x y z : Int) : 0 ≤ hs3 x y z ∧ hs3 x y z < 8192 := by
 unfold hs3
 have h := u32_in (x3 x y z * 2654435761)
 have e : (2 : Int) ^ (min (19 : Int).toNat IntKind.u32.bits) = 524288 := by decide
 rw [e, Int.fdiv_eq_ediv_of_nonneg _ (by decide)]
 omega
def hs (B : List Int) (a : Nat) : Int := hs3 (B.getD a 0) (B.getD (a + 1) 0) (B.getD (a + 2) 0)
theorem hs_in (B : List Int) (a : Nat) : 0 ≤ hs B a ∧ hs B a < 8192 := hs3_in _ _ _
structure Fd where
 hd : List Int
 nx : List Int
def putP (B : List Int) (f : Fd) (a : Nat) : Fd := if B.length < a + 3 then f else ⟨f.hd.set (hs B a).toNat (a : Int), f.nx.set a (f.hd.getD (hs B a).toNat 0)⟩
def putsP (B : List Int) (f : Fd) (a : Nat) : Nat → Fd
 | 0 => f
 | k + 1 => putP B (putsP B f a k) (a + k)
def alkGo (B : List Int) (old a : Nat) : Nat → Nat → Nat
 | 0, n => n
 | f + 1, n => if a + n < B.length ∧ B.getD (old + n) 0 = B.getD (a + n) 0 then alkGo B old a f (n + 1) else n
def alk (B : List Int) (old a : Nat) : Nat := alkGo B old a 258 0
def findGo (B nx : List Int) (a : Nat) : Nat → Int → Int → Int → Int × Int
 | 0, _, n, far => (n, far)
 | t + 1, old, n, far => if old = -1 ∨ 32768 < (a : Int) - old then (n, far) else
  if n < (alk B old.toNat a : Int) then findGo B nx a t (nx.getD old.toNat 0) (alk B old.toNat a) ((a : Int) - old) else findGo B nx a t (nx.getD old.toNat 0) n far
def findP (B : List Int) (f : Fd) (a : Nat) : Int × Int := if B.length < a + 3 then (0, 0) else findGo B f.nx a 24 (f.hd.getD (hs B a).toNat 0) 0 0
structure Tok where
 lit : Int
 n : Int
 far : Int
def tokGo (B : List Int) : Nat → Fd → Nat → List Tok
 | 0, _, _ => []
 | q + 1, f, a => if a < B.length then
   (if (findP B f a).1 < 3 then ⟨B.getD a 0, 0, 0⟩ :: tokGo B q (putsP B f a 1) (a + 1)
    else ⟨0, (findP B f a).1, (findP B f a).2⟩ :: tokGo B q (putsP B f a (findP B f a).1.toNat) (a + (findP B f a).1.toNat)) else []
def fd0 (B : List Int) : Fd := ⟨List.replicate 8192 (-1), List.replicate B.length 0⟩
def toks (B : List Int) : List Tok := tokGo B B.length (fd0 B) 0
theorem alkGo_end {B : List Int} {old a f n : Nat} (h : ¬ (a + n < B.length ∧ B.getD (old + n) 0 = B.getD (a + n) 0)) : alkGo B old a f n = n := by
 cases f with
 | zero => rfl
 | succ f => simp only [alkGo]; rw [if_neg h]
theorem alkGo_next {B : List Int} {old a n : Nat} (hn : n < 258) (h : a + n < B.length ∧ B.getD (old + n) 0 = B.getD (a + n) 0) : alkGo B old a (258 - n) n = alkGo B old a (258 - (n + 1)) (n + 1) := by
 rw [show 258 - n = (258 - (n + 1)) + 1 by omega]
 simp only [alkGo]
 rw [if_pos h]
structure Alk (B : List Int) (old a n : Nat) : Prop where
 le : n ≤ 258
 room : a + n ≤ B.length ∨ n = 0
 same : ∀ i, i < n → B.getD (old + i) 0 = B.getD (a + i) 0
theorem alkGo_ok {B : List Int} {old a : Nat} : ∀ (f n : Nat), n + f ≤ 258 → Alk B old a n → Alk B old a (alkGo B old a f n)
 | 0, n, _, h => h
 | f + 1, n, hf, h => by
  simp only [alkGo]
  split
  ·rename_i hc
   refine alkGo_ok f (n + 1) (by omega) ⟨by omega, .inl (by omega), fun i hi => ?_⟩
   rcases Nat.lt_or_ge i n with h1 | h1
   ·exact h.same i h1
   ·obtain rfl : i = n := by omega
    exact hc.2
  ·exact h
theorem alk_ok (B : List Int) (old a : Nat) : Alk B old a (alk B old a) := alkGo_ok 258 0 (by omega) ⟨by omega, .inr rfl, fun i h => by omega⟩
structure Fok (B : List Int) (n : Nat) (f : Fd) : Prop where
 hl : f.hd.length = 8192
 nl : f.nx.length = B.length
 h : ∀ i, i < 8192 → -1 ≤ f.hd.getD i 0 ∧ f.hd.getD i 0 < n
 x : ∀ i, i < B.length → -1 ≤ f.nx.getD i 0 ∧ (f.nx.getD i 0 < n ∨ f.nx.getD i 0 = 0)
theorem rep_get {n i : Nat} {x : Int} (h : i < n) : (List.replicate n x).getD i 0 = x := by simp [List.getD_eq_getElem?_getD, h]
theorem Fok.start (B : List Int) : Fok B 0 (fd0 B) := ⟨List.length_replicate .., List.length_replicate .., fun i hi => by show -1 ≤ (List.replicate 8192 (-1 : Int)).getD i 0 ∧ _; rw [show (fd0 B).hd = List.replicate 8192 (-1) from rfl, rep_get hi]; omega, fun i hi => by rw [show (fd0 B).nx = List.replicate B.length 0 from rfl, rep_get hi]; omega⟩
theorem set_get (l : List Int) (k : Nat) (v : Int) (i : Nat) : (l.set k v).getD i 0 = if i = k ∧ k < l.length then v else l.getD i 0 := by
 simp only [List.getD_eq_getElem?_getD, List.getElem?_set]
 by_cases h : k = i
 ·subst h
  by_cases h2 : k < l.length
  ·simp [h2]
  ·simp [h2, List.getElem?_eq_none (Nat.le_of_not_lt h2)]
 ·have : ¬ (i = k ∧ k < l.length) := fun e => h e.1.symm
  simp [h, this]
theorem Fok.put {B : List Int} {n : Nat} {f : Fd} (h : Fok B n f) : Fok B (n + 1) (putP B f n) := by
 unfold putP
 split
 ·exact ⟨h.hl, h.nl, fun i hi => by have := h.h i hi; omega, fun i hi => by have := h.x i hi; omega⟩
 ·have hh := hs_in B n
  refine ⟨by simp [h.hl], by simp [h.nl], fun i hi => ?_, fun i hi => ?_⟩
  ·show -1 ≤ (f.hd.set _ _).getD i 0 ∧ (f.hd.set _ _).getD i 0 < _
   rw [set_get]
   split
   ·omega
   ·have := h.h i hi; omega
  ·show -1 ≤ (f.nx.set _ _).getD i 0 ∧ ((f.nx.set _ _).getD i 0 < _ ∨ (f.nx.set _ _).getD i 0 = 0)
   rw [set_get]
   split
   ·have := h.h (hs B n).toNat (by omega); omega
   ·have := h.x i hi; omega
theorem Fok.puts {B : List Int} {n : Nat} {f : Fd} (h : Fok B n f) : ∀ k, Fok B (n + k) (putsP B f n k)
 | 0 => h
 | k + 1 => (h.puts k).put
structure Fs (B : List Int) (a : Nat) (r : Int × Int) : Prop where
 or_ : (r.1 = 0 ∧ r.2 = 0) ∨ (1 ≤ r.1 ∧ r.1 ≤ 258 ∧ 1 ≤ r.2 ∧ r.2 ≤ 32768 ∧ r.2 ≤ a ∧ a + r.1.toNat ≤ B.length ∧ ∀ i, i < r.1.toNat → B.getD (a - r.2.toNat + i) 0 = B.getD (a + i) 0)
theorem findGo_ok {B nx : List Int} {a : Nat} (hx : ∀ i, i < B.length → -1 ≤ nx.getD i 0 ∧ (nx.getD i 0 < a ∨ nx.getD i 0 = 0)) (ha : a < B.length) : ∀ (t : Nat) (old n far : Int), -1 ≤ old → (old < a ∨ (old = 0 ∧ 0 < a)) → Fs B a (n, far) → Fs B a (findGo B nx a t old n far)
 | 0, _, _, _, _, _, h => h
 | t + 1, old, n, far, h0, h1, h => by
  simp only [findGo]
  split
  ·exact h
  ·rename_i hc
   have hx2 := hx old.toNat (by omega)
   have ho : old < a := by omega
   split
   ·rename_i hk
    have hA := alk_ok B old.toNat a
    refine findGo_ok hx ha t _ _ _ hx2.1 (by omega) ⟨.inr ⟨?_, ?_, ?_, ?_, ?_, ?_, ?_⟩⟩
    ·have := h.or_; omega
    ·have := hA.le; show (alk B old.toNat a : Int) ≤ 258; omega
    ·show 1 ≤ (a : Int) - old; omega
    ·show (a : Int) - old ≤ 32768; omega
    ·show (a : Int) - old ≤ a; omega
    ·have := hA.room
     show a + ((alk B old.toNat a : Nat) : Int).toNat ≤ B.length
     omega
    ·intro i hi
     have := hA.same i (by simpa using hi)
     show B.getD (a - ((a : Int) - old).toNat + i) 0 = _
     rw [show a - ((a : Int) - old).toNat = old.toNat by omega]
     exact this
   ·exact findGo_ok hx ha t _ _ _ hx2.1 (by omega) h
theorem find_ok {B : List Int} {a : Nat} {f : Fd} (h : Fok B a f) : Fs B a (findP B f a) := by
 unfold findP
 split
 ·exact ⟨.inl ⟨rfl, rfl⟩⟩
 ·have hh := hs_in B a
  have h1 := h.h (hs B a).toNat (by omega)
  exact findGo_ok h.x (by omega) 24 _ 0 0 h1.1 (.inl h1.2) ⟨.inl ⟨rfl, rfl⟩⟩
def exT : List Tok → List Int → List Int
 | [], o => o
 | t :: l, o => exT l (if t.n = 0 then o ++ [t.lit] else cpy t.far.toNat t.n.toNat o)
structure TokOk (t : Tok) : Prop where
 or_ : (t.n = 0 ∧ t.far = 0 ∧ 0 ≤ t.lit ∧ t.lit < 256) ∨ (t.lit = 0 ∧ 3 ≤ t.n ∧ t.n ≤ 258 ∧ 1 ≤ t.far ∧ t.far ≤ 32768)
theorem cpy_take {B : List Int} {d : Nat} : ∀ (n a : Nat), a + n ≤ B.length → 1 ≤ d → d ≤ a → (∀ i, i < n → B.getD (a - d + i) 0 = B.getD (a + i) 0) → cpy d n (B.take a) = B.take (a + n)
 | 0, a, _, _, _, _ => rfl
 | n + 1, a, h1, h2, h3, h4 => by
  simp only [cpy]
  have e : B.take a ++ [(B.take a).getD ((B.take a).length - d) 0] = B.take (a + 1) := by
   rw [List.length_take, Nat.min_eq_left (by omega)]
   have e1 : (B.take a).getD (a - d) 0 = B.getD a 0 := by
    have := h4 0 (by omega)
    simp only [Nat.add_zero] at this
    rw [← this]
    simp [List.getD_eq_getElem?_getD, List.getElem?_take, show a - d < a by omega]
   rw [e1, List.take_add_one]
   simp [List.getD_eq_getElem?_getD, show a < B.length by omega]
  rw [e, cpy_take n (a + 1) (by omega) h2 (by omega) (fun i hi => by have := h4 (i + 1) (by omega); rw [show a + 1 - d + i = a - d + (i + 1) by omega, show a + 1 + i = a + (i + 1) by omega]; exact this)]
  congr 1; omega
inductive TokAt (B : List Int) : Nat → List Tok → Prop
 | nil : TokAt B B.length []
 | lit {a : Nat} {l : List Tok} : a < B.length → TokAt B (a + 1) l → TokAt B a (⟨B.getD a 0, 0, 0⟩ :: l)
 | cp {a n d : Nat} {l : List Tok} : 3 ≤ n → n ≤ 258 → 1 ≤ d → d ≤ 32768 → d ≤ a → a + n ≤ B.length → (∀ i, i < n → B.getD (a - d + i) 0 = B.getD (a + i) 0) → TokAt B (a + n) l → TokAt B a (⟨0, n, d⟩ :: l)
theorem tokGo_at {B : List Int} : ∀ (q : Nat) {f : Fd} {a : Nat}, Fok B a f → a ≤ B.length → B.length - a ≤ q → TokAt B a (tokGo B q f a)
 | 0, f, a, h, h1, h2 => by
  have : a = B.length := by omega
  subst this; exact .nil
 | q + 1, f, a, h, h1, h2 => by
  simp only [tokGo]
  split
  ·rename_i hl
   have hF := (find_ok h).or_
   split
   ·exact .lit hl (tokGo_at q (h.puts 1) (by omega) (by omega))
   ·rename_i h3
    rcases hF with hF | ⟨f1, f2, f3, f4, f5, f6, f7⟩
    ·omega
    ·have e1 : (findP B f a).1 = ((findP B f a).1.toNat : Int) := by omega
     have e2 : (findP B f a).2 = ((findP B f a).2.toNat : Int) := by omega
     have := TokAt.cp (B := B) (a := a) (n := (findP B f a).1.toNat) (d := (findP B f a).2.toNat) (by omega) (by omega) (by omega) (by omega) (by omega) f6 f7 (tokGo_at q (h.puts (findP B f a).1.toNat) (by omega) (by omega))
     rw [← e1, ← e2] at this
     exact this
  ·have : a = B.length := by omega
   subst this; exact .nil
theorem toks_at (B : List Int) : TokAt B 0 (toks B) := tokGo_at _ (Fok.start B) (Nat.zero_le _) (by omega)
theorem TokAt.ok {B : List Int} (hB : Byt B) {a : Nat} {l : List Tok} (h : TokAt B a l) : ∀ t ∈ l, TokOk t := by
 induction h with
 | nil => intro t ht; cases ht
 | @lit a l hl _ ih =>
  intro t ht
  rcases List.mem_cons.1 ht with rfl | ht
  ·exact ⟨.inl ⟨rfl, rfl, (hB.get a).1, (hB.get a).2⟩⟩
  ·exact ih t ht
 | @cp a n d l h1 h2 h3 h4 h5 h6 h7 _ ih =>
  intro t ht
  rcases List.mem_cons.1 ht with rfl | ht
  ·exact ⟨.inr ⟨rfl, by show (3 : Int) ≤ n; omega, by show (n : Int) ≤ 258; omega, by show (1 : Int) ≤ d; omega, by show (d : Int) ≤ 32768; omega⟩⟩
  ·exact ih t ht
theorem TokAt.len {B : List Int} {a : Nat} {l : List Tok} (h : TokAt B a l) : l.length + a ≤ B.length := by
 induction h with
 | nil => simp
 | lit _ _ ih => simp only [List.length_cons]; omega
 | cp _ _ _ _ _ _ _ _ ih => simp only [List.length_cons]; omega
theorem wrap32b {x y : Int} (h : 0 ≤ y ∧ y < 256) (e : x = y) : IntKind.u32.wrap x = y := by
 subst e
 have e : IntKind.u32.wrap x = x % 4294967296 := by simp [IntKind.wrap, IntKind.bits, IntKind.signed]
 rw [e]; omega
theorem x3_eq (x y z : Int) : Value.int .u32 (IntKind.u32.wrap ((BitVec.ofInt IntKind.u32.bits (IntKind.u32.wrap ((BitVec.ofInt IntKind.u32.bits (IntKind.u32.wrap (x * 2 ^ (min (16 : Int).toNat IntKind.u32.bits))) ||| BitVec.ofInt IntKind.u32.bits (IntKind.u32.wrap (y * 2 ^ (min (8 : Int).toNat IntKind.u32.bits)))).toNat : Int)) ||| BitVec.ofInt IntKind.u32.bits z).toNat : Int)) = .int .u32 (x3 x y z) := rfl
theorem hs_eq (B : List Int) (a : Nat) : Value.int .u32 ((IntKind.u32.wrap (x3 (B.getD a 0) (B.getD (a + 1) 0) (B.getD (a + 2) 0) * 2654435761)).fdiv (2 ^ (min (19 : Int).toNat IntKind.u32.bits))) = .int .u32 (hs B a) := rfl
theorem alkGo_end2 {B : List Int} {old a n : Nat} (hn : n ≤ 258) (h : (n < 258 ∧ a + n < B.length ∧ B.getD (old + n) 0 = B.getD (a + n) 0) → False) : alkGo B old a (258 - n) n = n := by
 rcases Nat.lt_or_ge n 258 with h1 | h1
 ·exact alkGo_end (fun h2 => h ⟨h1, h2⟩)
 ·rw [show 258 - n = 0 by omega]; rfl
theorem putP_no {B : List Int} {f : Fd} {a : Nat} (h : B.length < a + 3) : putP B f a = f := if_pos h
theorem putP_yes {B : List Int} {f : Fd} {a : Nat} (h : ¬ B.length < a + 3) : (putP B f a).hd = f.hd.set (hs B a).toNat (a : Int) ∧ (putP B f a).nx = f.nx.set a (f.hd.getD (hs B a).toNat 0) := by
 unfold putP; rw [if_neg h]; exact ⟨rfl, rfl⟩
theorem find_no {B : List Int} {f : Fd} {a : Nat} (h : B.length < a + 3) : findP B f a = (0, 0) := if_pos h
theorem find_go {B : List Int} {f : Fd} {a : Nat} (h : ¬ B.length < a + 3) : findP B f a = findGo B f.nx a (24 - 0) (f.hd.getD (hs B a).toNat 0) 0 0 := if_neg h
section
variable {B nx : List Int} {a k o : Nat} {old n far : Int}
theorem findGo_end (h : ¬ k < 24) : findGo B nx a (24 - k) old n far = (n, far) := by rw [show 24 - k = 0 by omega]; rfl
theorem findGo_stop (hk : k < 24) (h : old = -1 ∨ 32768 < (a : Int) - old) : findGo B nx a (24 - k) old n far = (n, far) := by
 rw [show 24 - k = (24 - (k + 1)) + 1 by omega]
 simp only [findGo]
 rw [if_pos h]
theorem findGo_yes (hk : k < 24) (h1 : ¬ (o : Int) = -1) (h2 : ¬ 32768 < (a : Int) - o) (h3 : n < (alk B o a : Int)) : findGo B nx a (24 - k) o n far = findGo B nx a (24 - (k + 1)) (nx.getD o 0) (alk B o a) ((a : Int) - o) := by
 rw [show 24 - k = (24 - (k + 1)) + 1 by omega]
 simp only [findGo]
 rw [if_neg (by omega), Int.toNat_natCast, if_pos h3]
theorem findGo_no (hk : k < 24) (h1 : ¬ (o : Int) = -1) (h2 : ¬ 32768 < (a : Int) - o) (h3 : ¬ n < (alk B o a : Int)) : findGo B nx a (24 - k) o n far = findGo B nx a (24 - (k + 1)) (nx.getD o 0) n far := by
 rw [show 24 - k = (24 - (k + 1)) + 1 by omega]
 simp only [findGo]
 rw [if_neg (by omega), Int.toNat_natCast, if_neg h3]
end
theorem tokGo_more {B : List Int} : ∀ (q q' : Nat) (f : Fd) (a : Nat), B.length - a ≤ q → B.length - a ≤ q' → tokGo B q f a = tokGo B q' f a
 | 0, 0, f, a, _, _ => rfl
 | 0, q' + 1, f, a, h, _ => by simp only [tokGo]; rw [if_neg (by omega)]
 | q + 1, 0, f, a, _, h => by simp only [tokGo]; rw [if_neg (by omega)]
 | q + 1, q' + 1, f, a, h, h' => by
  simp only [tokGo]
  split
  ·split
   ·rw [tokGo_more q q' _ _ (by omega) (by omega)]
   ·rw [tokGo_more q q' _ _ (by omega) (by omega)]
  ·rfl
theorem tokGo_lit {B : List Int} {f : Fd} {a : Nat} (h : a < B.length) (h3 : (findP B f a).1 < 3) : tokGo B (B.length - a) f a = ⟨B.getD a 0, 0, 0⟩ :: tokGo B (B.length - (a + 1)) (putsP B f a 1) (a + 1) := by
 rw [show B.length - a = (B.length - (a + 1)) + 1 by omega]
 simp only [tokGo]
 rw [if_pos h, if_pos h3]
theorem tokGo_cp {B : List Int} {f : Fd} {a n : Nat} (h : a < B.length) (h3 : ¬ (findP B f a).1 < 3) (hn : (findP B f a).1 = (n : Int)) : tokGo B (B.length - a) f a = ⟨0, (findP B f a).1, (findP B f a).2⟩ :: tokGo B (B.length - (a + n)) (putsP B f a n) (a + n) := by
 rw [show B.length - a = (B.length - (a + 1)) + 1 by omega]
 simp only [tokGo]
 rw [if_pos h, if_neg h3, hn, Int.toNat_natCast, tokGo_more (B.length - (a + 1)) (B.length - (a + n)) _ _ (by omega) (by omega)]
theorem toks_eq (B : List Int) : [] ++ tokGo B (B.length - 0) (fd0 B) 0 = toks B := rfl
theorem rep_step {n i : Nat} (h : i < n) : (List.replicate i (-1 : Int) ++ List.replicate (n - i) 0).set i (-1) = List.replicate (i + 1) (-1) ++ List.replicate (n - (i + 1)) 0 := by
 rw [List.set_append_right _ _ (by simp), List.length_replicate, Nat.sub_self, show n - i = (n - (i + 1)) + 1 by omega, List.replicate_succ, List.set_cons_zero, show List.replicate (i + 1) (-1 : Int) = List.replicate i (-1) ++ [-1] from List.replicate_succ']
 simp
theorem find_big {B : List Int} {f : Fd} {a : Nat} (hf : Fok B a f) (h3 : ¬ (findP B f a).1 < 3) : ∃ n d : Nat, (findP B f a).1 = (n : Int) ∧ (findP B f a).2 = (d : Int) ∧ 3 ≤ n ∧ n ≤ 258 ∧ a + n ≤ B.length := by
 rcases (find_ok hf).or_ with h | ⟨f1, f2, f3, f4, f5, f6, f7⟩
 ·omega
 ·exact ⟨(findP B f a).1.toNat, (findP B f a).2.toNat, by omega, by omega, by omega, by omega, f6⟩
end Go.DefP
namespace Go.DefP
open Go.BitP Go.HuffP Go.InfP
def mreGo (lim x : Int) : Nat → Nat → Nat
 | 0, m => m
 | f + 1, m => if lim ≤ x / 2 ^ m then mreGo lim x f (m + 1) else m
def mre (lim x : Int) : Nat := mreGo lim x 16 0
def lnSm (n : Int) : Int := if n - 3 = 255 then 285 else if n - 3 < 8 then 257 + (n - 3) else 257 + 4 * (mre 8 (n - 3) : Int) + (n - 3) / 2 ^ mre 8 (n - 3)
def lnMo (n : Int) : Nat := if n - 3 = 255 then 0 else if n - 3 < 8 then 0 else mre 8 (n - 3)
def lnRe (n : Int) : Int := if n - 3 = 255 then 0 else if n - 3 < 8 then 0 else (n - 3) % 2 ^ mre 8 (n - 3)
def dsSm (f : Int) : Int := if f - 1 < 4 then f - 1 else 2 * (mre 4 (f - 1) : Int) + (f - 1) / 2 ^ mre 4 (f - 1)
def dsMo (f : Int) : Nat := if f - 1 < 4 then 0 else mre 4 (f - 1)
def dsRe (f : Int) : Int := if f - 1 < 4 then 0 else (f - 1) % 2 ^ mre 4 (f - 1)
theorem div_2 (x : Int) (k : Nat) : x / 2 ^ (k + 1) = x / 2 ^ k / 2 := by
 rw [Int.pow_succ, Int.ediv_ediv_of_nonneg (Int.le_of_lt (Int.pow_pos (by decide)))]
theorem div_le {x : Int} {k : Nat} (hx : 0 ≤ x ∧ x < 32768) (hk : 13 ≤ k) : x / 2 ^ k < 4 := by
 have h1 : (2 : Int) ^ 13 ≤ 2 ^ k := by
  have := Nat.pow_le_pow_right (n := 2) (by decide) hk
  have e : ∀ q : Nat, ((2 : Int) ^ q) = ((2 ^ q : Nat) : Int) := fun q => by simp
  rw [e, e]; omega
 have h2 : (0 : Int) < 2 ^ k := Int.pow_pos (by decide)
 refine Int.ediv_lt_of_lt_mul h2 ?_
 have : (2 : Int) ^ 13 = 8192 := by decide
 omega
theorem mreGo_end {lim x : Int} {k : Nat} (h : ¬ lim ≤ x / 2 ^ k) : ∀ f, mreGo lim x f k = k
 | 0 => rfl
 | f + 1 => if_neg h
theorem mreGo_next {lim x : Int} {k : Nat} (hk : k < 16) (h : lim ≤ x / 2 ^ k) : mreGo lim x (16 - k) k = mreGo lim x (16 - (k + 1)) (k + 1) := by
 rw [show 16 - k = (16 - (k + 1)) + 1 by omega]
 exact if_pos h
structure Mr (lim x : Int) (m : Nat) : Prop where
 lt : x / 2 ^ m < lim
 ge : m = 0 ∨ lim ≤ x / 2 ^ (m - 1)
 le : m ≤ 13
theorem mreGo_ok {lim x : Int} (hl : 4 ≤ lim) (hx : 0 ≤ x ∧ x < 32768) : ∀ f k, f + k = 16 → k ≤ 13 → (k = 0 ∨ lim ≤ x / 2 ^ (k - 1)) → Mr lim x (mreGo lim x f k)
 | 0, k, h, hk, _ => by omega
 | f + 1, k, h, hk, hg => by
  simp only [mreGo]
  split
  ·rename_i hc
   have hk2 : k < 13 := by
    rcases Nat.lt_or_ge k 13 with h1 | h1
    ·exact h1
    ·have := div_le hx h1; omega
   exact mreGo_ok hl hx f (k + 1) (by omega) (by omega) (.inr hc)
  ·rename_i hc
   exact ⟨by omega, hg, hk⟩
theorem mre_ok {lim x : Int} (hl : 4 ≤ lim) (hx : 0 ≤ x ∧ x < 32768) : Mr lim x (mre lim x) := mreGo_ok hl hx 16 0 rfl (by omega) (.inl rfl)
theorem mod_at (x : Int) (m : Nat) : 0 ≤ x % 2 ^ m ∧ x % 2 ^ m < 2 ^ m ∧ x / 2 ^ m * 2 ^ m + x % 2 ^ m = x := by
 have hp : (0 : Int) < 2 ^ m := Int.pow_pos (by decide)
 exact ⟨Int.emod_nonneg _ (by omega), Int.emod_lt_of_pos _ hp, by have := Int.mul_ediv_add_emod x (2 ^ m); rw [Int.mul_comm] at this; exact this⟩
theorem ln_ok {n : Int} (h : 3 ≤ n ∧ n ≤ 258) : 257 ≤ lnSm n ∧ lnSm n ≤ 285 ∧ lnM (lnSm n - 257) = lnMo n ∧ lnB (lnSm n - 257) + lnRe n = n ∧ 0 ≤ lnRe n ∧ lnRe n < 2 ^ lnMo n ∧ lnMo n ≤ 13 := by
 unfold lnSm lnMo lnRe
 by_cases h1 : n - 3 = 255
 ·rw [if_pos h1, if_pos h1, if_pos h1]
  have : n = 258 := by omega
  subst this
  exact ⟨by decide, by decide, by decide, by decide, by decide, by decide, by decide⟩
 ·rw [if_neg h1, if_neg h1, if_neg h1]
  by_cases h2 : n - 3 < 8
  ·rw [if_pos h2, if_pos h2, if_pos h2]
   refine ⟨by omega, by omega, ?_, ?_, by decide, by decide, by decide⟩
   ·exact lnM_few (.inl (by omega))
   ·rw [lnB_few (by omega)]; omega
  ·rw [if_neg h2, if_neg h2, if_neg h2]
   have hM := mre_ok (lim := 8) (x := n - 3) (by decide) (by omega)
   generalize mre 8 (n - 3) = m at *
   have hm0 : m ≠ 0 := by
    intro e; subst e
    have := hM.lt
    simp at this; omega
   have hg := hM.ge.resolve_left hm0
   have hd := div_2 (n - 3) (m - 1)
   rw [show m - 1 + 1 = m by omega] at hd
   have hl := hM.lt
   obtain ⟨e1, e2, e3⟩ := mod_at (n - 3) m
   have hm5 : m ≤ 5 := by
    rcases Nat.lt_or_ge m 6 with h6 | h6
    ·omega
    ·exfalso
     have h7 : (n - 3) / 2 ^ (m - 1) ≤ (n - 3) / 2 ^ 5 := by
      have e : (m - 1) = 5 + (m - 6) := by omega
      rw [e, Int.pow_add, ← Int.ediv_ediv_of_nonneg (by decide)]
      exact Int.ediv_le_self _ (Int.ediv_nonneg (by omega) (by decide))
     have : (2 : Int) ^ 5 = 32 := by decide
     rw [this] at h7
     omega
   generalize hq : (n - 3) / 2 ^ m = q at *
   have hs : 257 + 4 * (m : Int) + q - 257 = 4 * (m : Int) + q := by omega
   rw [hs]
   have hK : lnK (4 * (m : Int) + q) = m := by unfold lnK; omega
   refine ⟨by omega, by omega, ?_, ?_, e1, e2, by omega⟩
   ·rw [lnM_k (by omega) (by omega), hK]
   ·rw [lnB_k (by omega) (by omega), hK, show 4 + (4 * (m : Int) + q) % 4 = q by omega]
    omega
theorem ds_ok {f : Int} (h : 1 ≤ f ∧ f ≤ 32768) : 0 ≤ dsSm f ∧ dsSm f < 30 ∧ dsM (dsSm f) = dsMo f ∧ dsB (dsSm f) + dsRe f = f ∧ 0 ≤ dsRe f ∧ dsRe f < 2 ^ dsMo f ∧ dsMo f ≤ 13 := by
 unfold dsSm dsMo dsRe
 by_cases h2 : f - 1 < 4
 ·rw [if_pos h2, if_pos h2, if_pos h2]
  refine ⟨by omega, by omega, dsM_few (by omega), ?_, by decide, by decide, by decide⟩
  rw [dsB_few (by omega)]; omega
 ·rw [if_neg h2, if_neg h2, if_neg h2]
  have hM := mre_ok (lim := 4) (x := f - 1) (by decide) (by omega)
  generalize mre 4 (f - 1) = m at *
  have hm0 : m ≠ 0 := by
   intro e; subst e
   have := hM.lt
   simp at this; omega
  have hg := hM.ge.resolve_left hm0
  have hd := div_2 (f - 1) (m - 1)
  rw [show m - 1 + 1 = m by omega] at hd
  have hl := hM.lt
  have hle := hM.le
  obtain ⟨e1, e2, e3⟩ := mod_at (f - 1) m
  generalize hq : (f - 1) / 2 ^ m = q at *
  have hK : dsK (2 * (m : Int) + q) = m := by unfold dsK; omega
  refine ⟨by omega, by omega, ?_, ?_, e1, e2, by omega⟩
  ·rw [dsM_k (by omega), hK]
  ·rw [dsB_k (by omega), hK, show 2 + (2 * (m : Int) + q) % 2 = q by omega]
   omega
theorem and_low {x : Int} {m : Nat} (hx : 0 ≤ x ∧ x < 32768) (hm : m ≤ 13) : IntKind.i64.wrap ((BitVec.ofInt IntKind.i64.bits x &&& BitVec.ofInt IntKind.i64.bits (2 ^ m - 1)).toNat : Int) = x % 2 ^ m := by
 obtain ⟨a, rfl⟩ : ∃ a : Nat, x = (a : Int) := ⟨x.toNat, by omega⟩
 have hp : (2 : Nat) ^ m ≤ 8192 := Nat.pow_le_pow_right (n := 2) (by decide) hm
 have hp0 : 0 < (2 : Nat) ^ m := Nat.pow_pos (by decide)
 have e1 : (2 : Int) ^ m - 1 = ((2 ^ m - 1 : Nat) : Int) := by
  have : ((2 : Int) ^ m) = ((2 ^ m : Nat) : Int) := by simp
  rw [this]; omega
 have e : IntKind.i64.bits = 64 := rfl
 rw [e1, e, BitVec.toNat_and, ofInt_nat, ofInt_nat, Nat.mod_eq_of_lt (by omega), Nat.mod_eq_of_lt (by omega), Nat.and_two_pow_sub_one_eq_mod]
 have h3 : a % 2 ^ m < 2 ^ m := Nat.mod_lt _ hp0
 rw [Sl.wrapI (by omega) (by omega)]
 simp
theorem shl_1 {m : Nat} (hm : m ≤ 13) : IntKind.i64.wrap (1 * 2 ^ (min ((m : Nat) : Int).toNat IntKind.i64.bits)) = 2 ^ m := by
 have := (shl_small (x := 1) (n := m) (by decide) (by decide) hm (d := (m : Int)) rfl).1
 rw [this, Int.one_mul]
theorem pow_le13 {m : Nat} (hm : m ≤ 13) : (1 : Int) ≤ 2 ^ m ∧ (2 : Int) ^ m ≤ 8192 := by
 have h1 := Nat.pow_le_pow_right (n := 2) (by decide) hm
 have h2 : 0 < (2 : Nat) ^ m := Nat.pow_pos (by decide)
 have e : ((2 : Int) ^ m) = ((2 ^ m : Nat) : Int) := by simp
 rw [e]; omega
def tokB (ls ds : List Int) (t : Tok) : List Int := if t.n = 0 then wb ls t.lit else wb ls (lnSm t.n) ++ lowB (lnRe t.n) (lnMo t.n) ++ wb ds (dsSm t.far) ++ lowB (dsRe t.far) (dsMo t.far)
theorem tokB_lit {ls ds : List Int} {t : Tok} (h : t.n = 0) : tokB ls ds t = wb ls t.lit := if_pos h
theorem tokB_cp {ls ds : List Int} {t : Tok} (h : ¬ t.n = 0) : tokB ls ds t = wb ls (lnSm t.n) ++ lowB (lnRe t.n) (lnMo t.n) ++ wb ds (dsSm t.far) ++ lowB (dsRe t.far) (dsMo t.far) := if_neg h
def toksB (ls ds : List Int) (l : List Tok) : List Int := l.flatMap (tokB ls ds)
structure Fits (ls ds : List Int) (l : List Tok) : Prop where
 ok : ∀ t ∈ l, TokOk t
 lit : ∀ t ∈ l, t.n = 0 → t.lit < ls.length ∧ lkB ls t.lit = true
 cp : ∀ t ∈ l, t.n ≠ 0 → lnSm t.n < ls.length ∧ lkB ls (lnSm t.n) = true ∧ dsSm t.far < ds.length ∧ lkB ds (dsSm t.far) = true
 end_ : (256 : Int) < ls.length ∧ lkB ls 256 = true
theorem toksB_nil (ls ds : List Int) (l : List Tok) : toksB ls ds (l.take 0) = [] := rfl
theorem toksB_next {ls ds : List Int} {l : List Tok} {k : Nat} (h : k < l.length) : toksB ls ds (l.take k) ++ tokB ls ds l[k] = toksB ls ds (l.take (k + 1)) := by
 unfold toksB
 rw [List.take_add_one, List.getElem?_eq_getElem h, List.flatMap_append]
 simp
theorem tokB_len {ls ds : List Int} (hl : Vl ls) (hd : Vl ds) {t : Tok} (ht : TokOk t) : (tokB ls ds t).length ≤ 56 := by
 unfold tokB
 have w1 : ∀ (q : List Int) (hq : Vl q) (s : Int), (wb q s).length ≤ 15 := fun q hq s => by rw [wb_len]; have := lkN_le hq s; omega
 split
 ·have := w1 ls hl t.lit; omega
 ·rcases ht.or_ with h | ⟨h0, h1, h2, h3, h4⟩
  ·omega
  ·have a1 := (ln_ok ⟨h1, h2⟩).2.2.2.2.2.2
   have a2 := (ds_ok ⟨h3, h4⟩).2.2.2.2.2.2
   have b1 := w1 ls hl (lnSm t.n)
   have b2 := w1 ds hd (dsSm t.far)
   simp only [List.length_append, lowB_len]
   omega
theorem toksB_len {ls ds : List Int} (hl : Vl ls) (hd : Vl ds) : ∀ {l : List Tok}, (∀ t ∈ l, TokOk t) → (toksB ls ds l).length ≤ 56 * l.length
 | [], _ => by simp [toksB]
 | t :: l, h => by
  have h1 := tokB_len hl hd (h t (by simp))
  have h2 := toksB_len hl hd (l := l) (fun x hx => h x (by simp [hx]))
  simp only [toksB, List.flatMap_cons, List.length_append, List.length_cons] at h2 ⊢
  omega
end Go.DefP
namespace Go.PkM
abbrev Pk := Int × List Int
def prd : List Pk → List Pk
 | a :: b :: l => (a.1 + b.1, a.2 ++ b.2) :: prd l
 | _ => []
theorem prd_len : ∀ l : List Pk, (prd l).length = l.length / 2
 | [] => rfl
 | [_] => by simp [prd]
 | a :: b :: l => by simp only [prd, List.length_cons]; rw [prd_len l]; omega
def sy (l : List Pk) (m : Nat) : List Int := (l.take m).flatMap (·.2)
theorem prd_sy : ∀ (l : List Pk) (p : Nat), 2 * p ≤ l.length → sy (prd l) p = sy l (2 * p)
 | l, 0, _ => by simp [sy]
 | [], p + 1, h => by simp at h
 | [_], p + 1, h => by simp at h; omega
 | a :: b :: l, p + 1, h => by
  have ih := prd_sy l p (by simp at h; omega)
  unfold sy at ih ⊢
  rw [show 2 * (p + 1) = 2 * p + 1 + 1 by omega]
  simp only [prd, List.take_succ_cons, List.flatMap_cons, ih, List.append_assoc]
def mrg : List Pk → List Pk → List Pk
 | [], P => P
 | A, [] => A
 | a :: A, b :: P => if a.1 ≤ b.1 then a :: mrg A (b :: P) else b :: mrg (a :: A) P
termination_by A P => A.length + P.length
theorem mrg_nil (A : List Pk) : mrg A [] = A := by cases A <;> simp [mrg]
theorem mrg_nil1 (P : List Pk) : mrg [] P = P := by simp [mrg]
theorem mrg_cons (a b : Pk) (A P : List Pk) : mrg (a :: A) (b :: P) = if a.1 ≤ b.1 then a :: mrg A (b :: P) else b :: mrg (a :: A) P := by simp [mrg]
abbrev Srt (l : List Pk) : Prop := l.Pairwise (fun x y => x.1 ≤ y.1)
theorem mrg_len : ∀ (n : Nat) (A P : List Pk), A.length + P.length = n → (mrg A P).length = n := by
 intro n
 induction n with
 | zero => intro A P h; have h1 : A = [] := List.length_eq_zero_iff.1 (by omega); have h2 : P = [] := List.length_eq_zero_iff.1 (by omega); subst h1; subst h2; simp [mrg]
 | succ n ih =>
  intro A P h
  cases A with
  | nil => rw [mrg_nil1]; simpa using h
  | cons a A =>
   cases P with
   | nil => rw [mrg_nil]; simpa using h
   | cons b P =>
    rw [mrg_cons]
    simp only [List.length_cons] at h
    split
    ·rw [List.length_cons, ih A (b :: P) (by simp; omega)]
    ·rw [List.length_cons, ih (a :: A) P (by simp; omega)]
theorem mrg_take : ∀ (m : Nat) (A P : List Pk), Srt A → m ≤ A.length + P.length → ∃ q p, q + p = m ∧ q ≤ A.length ∧ p ≤ P.length ∧ ((mrg A P).take m).Perm (A.take q ++ P.take p) ∧ ∀ i, i < A.length → 0 < p → (A.getD i (0, [])).1 ≤ (P.getD (p - 1) (0, [])).1 → i < q := by
 intro m
 induction m with
 | zero => intro A P _ _; exact ⟨0, 0, rfl, Nat.zero_le _, Nat.zero_le _, by simp, fun i _ h => by omega⟩
 | succ m ih =>
  intro A P hA hm
  cases A with
  | nil => exact ⟨0, m + 1, by omega, Nat.zero_le _, by simpa using hm, by rw [mrg_nil1]; simp, fun i h => by simp at h⟩
  | cons a A =>
   cases P with
   | nil => exact ⟨m + 1, 0, by omega, by simpa using hm, Nat.zero_le _, by rw [mrg_nil]; simp, fun i _ h => by omega⟩
   | cons b P =>
    have hA2 := List.pairwise_cons.1 hA
    rw [mrg_cons]
    by_cases hab : a.1 ≤ b.1
    ·rw [if_pos hab]
     obtain ⟨q, p, h1, h2, h3, h4, h5⟩ := ih A (b :: P) hA2.2 (by simp at hm ⊢; omega)
     refine ⟨q + 1, p, by omega, by simp; omega, h3, ?_, fun i hi hp hw => ?_⟩
     ·simp only [List.take_succ_cons, List.cons_append]
      exact h4.cons a
     ·cases i with
      | zero => omega
      | succ i =>
       have := h5 i (by simpa using hi) hp (by simpa using hw)
       omega
    ·rw [if_neg hab]
     obtain ⟨q, p, h1, h2, h3, h4, h5⟩ := ih (a :: A) P hA (by simp at hm ⊢; omega)
     refine ⟨q, p + 1, by omega, h2, by simp; omega, ?_, fun i hi hp hw => ?_⟩
     ·simp only [List.take_succ_cons]
      exact (h4.cons b).trans List.perm_middle.symm
     ·rw [Nat.add_sub_cancel] at hw
      cases p with
      | zero =>
       exfalso
       have hw2 : ((a :: A).getD i (0, [])).1 ≤ b.1 := by simpa using hw
       cases i with
       | zero => simp at hw2; omega
       | succ i =>
        have hi2 : i < A.length := by simpa using hi
        have hmem : A[i] ∈ A := List.getElem_mem hi2
        have hle := hA2.1 _ hmem
        have : ((a :: A).getD (i + 1) (0, [])) = A[i] := by simp [List.getD_eq_getElem?_getD, hi2]
        rw [this] at hw2
        omega
      | succ p => exact h5 i hi (by omega) (by simpa using hw)
theorem mrg_mem {x : Pk} : ∀ (n : Nat) (A P : List Pk), A.length + P.length = n → x ∈ mrg A P → x ∈ A ∨ x ∈ P := by
 intro n
 induction n with
 | zero => intro A P h hx; have h1 : A = [] := List.length_eq_zero_iff.1 (by omega); have h2 : P = [] := List.length_eq_zero_iff.1 (by omega); subst h1; subst h2; simp [mrg] at hx
 | succ n ih =>
  intro A P h hx
  cases A with
  | nil => rw [mrg_nil1] at hx; exact .inr hx
  | cons a A =>
   cases P with
   | nil => rw [mrg_nil] at hx; exact .inl hx
   | cons b P =>
    rw [mrg_cons] at hx
    simp only [List.length_cons] at h
    split at hx
    ·rcases List.mem_cons.1 hx with rfl | hx
     ·exact .inl (List.mem_cons_self ..)
     ·rcases ih A (b :: P) (by simp; omega) hx with h1 | h1
      ·exact .inl (List.mem_cons_of_mem _ h1)
      ·exact .inr h1
    ·rcases List.mem_cons.1 hx with rfl | hx
     ·exact .inr (List.mem_cons_self ..)
     ·rcases ih (a :: A) P (by simp; omega) hx with h1 | h1
      ·exact .inl h1
      ·exact .inr (List.mem_cons_of_mem _ h1)
theorem mrg_srt : ∀ (n : Nat) (A P : List Pk), A.length + P.length = n → Srt A → Srt P → Srt (mrg A P) := by
 intro n
 induction n with
 | zero => intro A P h _ _; have h1 : A = [] := List.length_eq_zero_iff.1 (by omega); have h2 : P = [] := List.length_eq_zero_iff.1 (by omega); subst h1; subst h2; simp [mrg]
 | succ n ih =>
  intro A P h hA hP
  cases A with
  | nil => rw [mrg_nil1]; exact hP
  | cons a A =>
   cases P with
   | nil => rw [mrg_nil]; exact hA
   | cons b P =>
    have hA2 := List.pairwise_cons.1 hA
    have hP2 := List.pairwise_cons.1 hP
    simp only [List.length_cons] at h
    rw [mrg_cons]
    split
    ·rename_i hab
     refine List.pairwise_cons.2 ⟨fun x hx => ?_, ih A (b :: P) (by simp; omega) hA2.2 hP⟩
     rcases mrg_mem _ A (b :: P) rfl hx with h1 | h1
     ·exact hA2.1 x h1
     ·rcases List.mem_cons.1 h1 with rfl | h1
      ·exact hab
      ·exact Int.le_trans hab (hP2.1 x h1)
    ·rename_i hab
     refine List.pairwise_cons.2 ⟨fun x hx => ?_, ih (a :: A) P (by simp; omega) hA hP2.2⟩
     rcases mrg_mem _ (a :: A) P rfl hx with h1 | h1
     ·rcases List.mem_cons.1 h1 with rfl | h1
      ·omega
      ·exact Int.le_trans (by omega) (hA2.1 x h1)
     ·exact hP2.1 x h1
theorem mrg_filter (c : Int) : ∀ (n : Nat) (A P : List Pk), A.length + P.length = n → Srt A → (mrg A P).filter (fun x => decide (x.1 = c)) = A.filter (fun x => decide (x.1 = c)) ++ P.filter (fun x => decide (x.1 = c)) := by
 intro n
 induction n with
 | zero => intro A P h _; have h1 : A = [] := List.length_eq_zero_iff.1 (by omega); have h2 : P = [] := List.length_eq_zero_iff.1 (by omega); subst h1; subst h2; simp [mrg]
 | succ n ih =>
  intro A P h hA
  cases A with
  | nil => rw [mrg_nil1]; simp
  | cons a A =>
   cases P with
   | nil => rw [mrg_nil]; simp
   | cons b P =>
    have hA2 := List.pairwise_cons.1 hA
    simp only [List.length_cons] at h
    rw [mrg_cons]
    split
    ·have := ih A (b :: P) (by simp; omega) hA2.2
     rw [List.filter_cons, this, List.filter_cons (xs := A)]
     split <;> simp
    ·rename_i hab
     have := ih (a :: A) P (by simp; omega) hA
     rw [List.filter_cons, this]
     by_cases hb : b.1 = c
     ·have hz : (a :: A).filter (fun x => decide (x.1 = c)) = [] := by
       rw [List.filter_eq_nil_iff]
       intro x hx
       simp only [decide_eq_true_eq]
       rcases List.mem_cons.1 hx with rfl | hx
       ·omega
       ·have := hA2.1 x hx; omega
      rw [hz]
      simp [List.filter_cons, hb]
     ·simp [List.filter_cons, hb]
structure SS (l l' : List Pk) : Prop where
 srt : Srt l'
 filt : ∀ c, l'.filter (fun x => decide (x.1 = c)) = l.filter (fun x => decide (x.1 = c))
theorem srt_sd {l : List Pk} (h : Srt l) : StS.Sd (fun x : Pk => x.1) (0, []) l 0 l.length := fun i j h1 h2 h3 => by
 rcases Nat.lt_or_ge i j with hij | hij
 ·have := List.pairwise_iff_getElem.1 h i j (by omega) h3 hij
  simpa [List.getD_eq_getElem?_getD, h3, show i < l.length by omega] using this
 ·obtain rfl : i = j := by omega
  exact Int.le_refl _
theorem SS.eq {A P l' : List Pk} (h : SS (A ++ P) l') (hA : Srt A) (hP : Srt P) : l' = mrg A P :=
 StS.unique (key := fun x : Pk => x.1) (d := (0, [])) (srt_sd h.srt) (srt_sd (mrg_srt _ A P rfl hA hP)) fun c => by
  rw [h.filt c, mrg_filter c _ A P rfl hA, List.filter_append]
end Go.PkM
namespace Go.PkM
def lv (A : List Pk) : Nat → List Pk
 | 0 => []
 | j + 1 => mrg A (prd (lv A j))
theorem prd_ge {c : Int} : ∀ (l : List Pk), (∀ x ∈ l, c ≤ x.1) → ∀ x ∈ prd l, 2 * c ≤ x.1
 | [], _, x, hx => by simp [prd] at hx
 | [_], _, x, hx => by simp [prd] at hx
 | a :: b :: l, h, x, hx => by
  simp only [prd, List.mem_cons] at hx
  rcases hx with rfl | hx
  ·have h1 := h a (by simp)
   have h2 := h b (by simp)
   show 2 * c ≤ a.1 + b.1
   omega
  ·exact prd_ge l (fun y hy => h y (by simp [hy])) x hx
theorem prd_srt : ∀ (l : List Pk), Srt l → Srt (prd l)
 | [], _ => by simp [prd]
 | [_], _ => by simp [prd]
 | a :: b :: l, h => by
  have h1 := List.pairwise_cons.1 h
  have h2 := List.pairwise_cons.1 h1.2
  simp only [prd]
  refine List.pairwise_cons.2 ⟨fun x hx => ?_, prd_srt l h2.2⟩
  have h3 := prd_ge (c := b.1) l (fun y hy => h2.1 y hy) x hx
  have h4 := h1.1 b (by simp)
  show a.1 + b.1 ≤ x.1
  omega
theorem lv_srt {A : List Pk} (hA : Srt A) : ∀ j, Srt (lv A j)
 | 0 => List.Pairwise.nil
 | j + 1 => mrg_srt _ A _ rfl hA (prd_srt _ (lv_srt hA j))
theorem lv_len_succ (A : List Pk) (j : Nat) : (lv A (j + 1)).length = A.length + (lv A j).length / 2 := by
 rw [lv, mrg_len _ A _ rfl, prd_len]
theorem lv_len {A : List Pk} {most : Nat} (hn : A.length ≤ 2 ^ most) : ∀ j, j + 1 ≤ most → 2 * A.length ≤ (lv A (j + 1)).length + 2 ^ (most - j) := by
 intro j
 induction j with
 | zero =>
  intro h
  rw [lv_len_succ]
  simp [lv]
  omega
 | succ j ih =>
  intro h
  have h1 := ih (by omega)
  rw [lv_len_succ A (j + 1)]
  have e : 2 ^ (most - j) = 2 * 2 ^ (most - (j + 1)) := by rw [show most - j = (most - (j + 1)) + 1 by omega, Nat.pow_succ]; omega
  omega
theorem lv_enough {A : List Pk} {most : Nat} (hm : 1 ≤ most) (hn : A.length ≤ 2 ^ most) : 2 * A.length - 2 ≤ (lv A most).length := by
 have h := lv_len hn (most - 1) (by omega)
 rw [show most - 1 + 1 = most by omega, show most - (most - 1) = 1 by omega] at h
 omega
theorem prd_at : ∀ (k : Nat) (l : List Pk), 2 * k + 1 < l.length → (prd l).take (k + 1) = (prd l).take k ++ [((l.getD (2 * k) (0, [])).1 + (l.getD (2 * k + 1) (0, [])).1, (l.getD (2 * k) (0, [])).2 ++ (l.getD (2 * k + 1) (0, [])).2)]
 | 0, [], h => by simp at h
 | 0, [_], h => by simp at h
 | 0, a :: b :: l, _ => by simp [prd]
 | k + 1, [], h => by simp at h
 | k + 1, [_], h => by simp at h
 | k + 1, a :: b :: l, h => by
  have ih := prd_at k l (by simp at h; omega)
  simp only [prd, List.take_succ_cons, ih]
  rw [show 2 * (k + 1) = 2 * k + 1 + 1 by omega]
  simp only [List.getD_cons_succ, List.cons_append]
def sm (A : List Pk) (i : Nat) : Int := (A.getD i (0, [])).2.headD 0
structure Lf (A : List Pk) : Prop where
 srt : Srt A
 one : ∀ i, i < A.length → (A.getD i (0, [])).2 = [sm A i]
 inj : ∀ i j, i < A.length → j < A.length → sm A i = sm A j → i = j
 pos : ∀ x ∈ A, 0 < x.1
def Hv (A : List Pk) (e : Pk) : Prop := 0 ≤ e.1 ∧ ∀ i, i < A.length → sm A i ∈ e.2 → (A.getD i (0, [])).1 ≤ e.1
theorem hv_leaf {A : List Pk} (h : Lf A) {e : Pk} (he : e ∈ A) : Hv A e := by
 refine ⟨Int.le_of_lt (h.pos e he), fun i hi hs => ?_⟩
 obtain ⟨k, hk, rfl⟩ := List.getElem_of_mem he
 have h1 := h.one k hk
 have e1 : A.getD k (0, []) = A[k] := by simp [hk]
 rw [e1] at h1
 rw [h1] at hs
 have := h.inj i k hi hk (by simpa using hs)
 subst this
 rw [e1]
 exact Int.le_refl _
theorem hv_prd {A : List Pk} : ∀ (l : List Pk), (∀ e ∈ l, Hv A e) → ∀ e ∈ prd l, Hv A e
 | [], _, e, he => by simp [prd] at he
 | [_], _, e, he => by simp [prd] at he
 | a :: b :: l, h, e, he => by
  simp only [prd, List.mem_cons] at he
  rcases he with rfl | he
  ·have h1 := h a (by simp)
   have h2 := h b (by simp)
   refine ⟨Int.add_nonneg h1.1 h2.1, fun i hi hs => ?_⟩
   show (A.getD i (0, [])).1 ≤ a.1 + b.1
   rcases List.mem_append.1 hs with hs | hs
   ·have := h1.2 i hi hs; have := h2.1; omega
   ·have := h2.2 i hi hs; have := h1.1; omega
  ·exact hv_prd l (fun y hy => h y (by simp [hy])) e he
theorem hv_lv {A : List Pk} (h : Lf A) : ∀ j, ∀ e ∈ lv A j, Hv A e
 | 0, e, he => by simp [lv] at he
 | j + 1, e, he => by
  rcases mrg_mem _ A _ rfl he with h1 | h1
  ·exact hv_leaf h h1
  ·exact hv_prd _ (hv_lv h j) e h1
def ct (A : List Pk) (j m i : Nat) : Nat := (sy (lv A j) m).count (sm A i)
theorem count_take {A : List Pk} (h : Lf A) {i : Nat} (hi : i < A.length) : ∀ q, q ≤ A.length → ((A.take q).flatMap (·.2)).count (sm A i) = if i < q then 1 else 0
 | 0, _ => by simp
 | q + 1, hq => by
  have ih := count_take h hi q (by omega)
  have hq2 : q < A.length := by omega
  have h1 := h.one q hq2
  have e1 : A.getD q (0, []) = A[q] := by simp [hq2]
  rw [e1] at h1
  rw [List.take_add_one, List.getElem?_eq_getElem hq2, List.flatMap_append, List.count_append, ih]
  simp only [Option.toList_some, List.flatMap_cons, List.flatMap_nil, List.append_nil, h1]
  rw [List.count_singleton]
  by_cases e : i = q
  ·subst e; simp
  ·have hne : ¬ sm A q = sm A i := fun hh => e (h.inj q i hq2 hi hh).symm
   simp only [beq_iff_eq, hne, if_false]
   split <;> split <;> omega
theorem ct_zero {A : List Pk} {j i : Nat} : ct A j 0 i = 0 := by simp [ct, sy]
theorem ct_step {A : List Pk} (h : Lf A) {j m : Nat} (hm : m ≤ (lv A (j + 1)).length) : ∃ q p, q + p = m ∧ q ≤ A.length ∧ 2 * p ≤ (lv A j).length ∧ (∀ i, i < A.length → ct A (j + 1) m i = (if i < q then 1 else 0) + ct A j (2 * p) i) ∧ ∀ i, i < A.length → q ≤ i → ct A j (2 * p) i = 0 := by
 rw [lv, mrg_len _ A _ rfl] at hm
 obtain ⟨q, p, h1, h2, h3, h4, h5⟩ := mrg_take m A (prd (lv A j)) h.srt hm
 have h6 : 2 * p ≤ (lv A j).length := by rw [prd_len] at h3; omega
 refine ⟨q, p, h1, h2, h6, fun i hi => ?_, fun i hi hq => ?_⟩
 ·have hp := (List.Perm.flatMap_right (fun x : Pk => x.2) h4).count_eq (sm A i)
  rw [List.flatMap_append, List.count_append, count_take h hi q h2] at hp
  have := prd_sy (lv A j) p h6
  unfold ct
  rw [← this]
  exact hp
 ·have hz : ¬ 0 < ct A j (2 * p) i := fun hpos => by
   unfold ct at hpos
   rw [← prd_sy (lv A j) p h6] at hpos
   obtain ⟨e, he, hs⟩ := List.mem_flatMap.1 (List.count_pos_iff.1 hpos)
   have hp0 : 0 < p := by
    rcases Nat.eq_zero_or_pos p with h0 | h0
    ·subst h0; simp at he
    ·exact h0
   have hep : e ∈ prd (lv A j) := List.mem_of_mem_take he
   have hv := (hv_prd _ (hv_lv h j) e hep).2 i hi hs
   have hsr := prd_srt _ (lv_srt h.srt j)
   obtain ⟨k, hk, hke⟩ := List.getElem_of_mem he
   rw [List.length_take] at hk
   rw [List.getElem_take] at hke
   have hle : e.1 ≤ ((prd (lv A j)).getD (p - 1) (0, [])).1 := by
    have e1 : (prd (lv A j)).getD (p - 1) (0, []) = (prd (lv A j))[p - 1]'(by omega) := by simp [show p - 1 < (prd (lv A j)).length by omega]
    rw [e1, ← hke]
    rcases Nat.lt_or_ge k (p - 1) with hlt | hge
    ·exact List.pairwise_iff_getElem.1 hsr k (p - 1) (by omega) (by omega) hlt
    ·have hkk : k = p - 1 := by omega
     subst hkk
     exact Int.le_refl _
   have := h5 i hi hp0 (Int.le_trans hv hle)
   omega
  omega
def sm2 (f : Nat → Nat) : Nat → Nat
 | 0 => 0
 | n + 1 => sm2 f n + f n
theorem sm2_congr {f g : Nat → Nat} : ∀ n, (∀ i, i < n → f i = g i) → sm2 f n = sm2 g n
 | 0, _ => rfl
 | n + 1, h => by rw [sm2, sm2, sm2_congr n (fun i hi => h i (by omega)), h n (by omega)]
theorem sm2_add (f g : Nat → Nat) : ∀ n, sm2 (fun i => f i + g i) n = sm2 f n + sm2 g n
 | 0 => rfl
 | n + 1 => by simp only [sm2]; rw [sm2_add f g n]; omega
theorem sm2_ite (c : Nat) {q : Nat} : ∀ n, sm2 (fun i => if i < q then c else 0) n = min q n * c
 | 0 => by simp [sm2]
 | n + 1 => by
  simp only [sm2]
  rw [sm2_ite c n]
  split
  ·rw [show min q (n + 1) = min q n + 1 by omega, Nat.add_mul, Nat.one_mul]
  ·rw [show min q (n + 1) = min q n by omega, Nat.add_zero]
theorem sm2_const (c : Nat) : ∀ n, sm2 (fun _ => c) n = n * c
 | 0 => by simp [sm2]
 | n + 1 => by simp only [sm2]; rw [sm2_const c n, Nat.add_mul, Nat.one_mul]
theorem sm2_one {f : Nat → Nat} {k : Nat} : ∀ n, k < n → (∀ i, i < n → 1 ≤ f i) → f k + (n - 1) ≤ sm2 f n
 | 0, h, _ => by omega
 | n + 1, h, hf => by
  simp only [sm2]
  have hn := hf n (by omega)
  by_cases e : k = n
  ·have hm : ∀ m, m ≤ n → m ≤ sm2 f m := by
    intro m
    induction m with
    | zero => intro _; exact Nat.zero_le _
    | succ m ih => intro hm; have h1 := ih (by omega); have h2 := hf m (by omega); simp only [sm2]; omega
   have h3 := hm n (Nat.le_refl _)
   rw [e]
   omega
  ·have := sm2_one (f := f) (k := k) n (by omega) (fun i hi => hf i (by omega))
   omega
theorem taken {A : List Pk} (h : Lf A) : ∀ j m, m ≤ (lv A j).length → (∀ i, i < A.length → ct A j m i ≤ j) ∧ 2 * sm2 (fun i => 2 ^ j - 2 ^ (j - ct A j m i)) A.length = m * 2 ^ j := by
 intro j
 induction j with
 | zero =>
  intro m hm
  obtain rfl : m = 0 := by simpa [lv] using hm
  refine ⟨fun i hi => by rw [ct_zero]; exact Nat.le_refl _, ?_⟩
  rw [sm2_congr (g := fun _ => 0) A.length (fun i _ => by rw [ct_zero]), sm2_const]
  simp
 | succ j ih =>
  intro m hm
  obtain ⟨q, p, h1, h2, h3, h4, h5⟩ := ct_step h hm
  obtain ⟨i1, i2⟩ := ih (2 * p) h3
  refine ⟨fun i hi => ?_, ?_⟩
  ·rw [h4 i hi]
   have := i1 i hi
   split <;> omega
  ·have e : sm2 (fun i => 2 ^ (j + 1) - 2 ^ (j + 1 - ct A (j + 1) m i)) A.length = sm2 (fun i => (if i < q then 2 ^ j else 0) + (2 ^ j - 2 ^ (j - ct A j (2 * p) i))) A.length := by
    refine sm2_congr _ (fun i hi => ?_)
    rw [h4 i hi]
    have hc := i1 i hi
    have hp2 : 2 ^ (j + 1) = 2 * 2 ^ j := by rw [Nat.pow_succ]; omega
    by_cases hiq : i < q
    ·rw [if_pos hiq, if_pos hiq, show j + 1 - (1 + ct A j (2 * p) i) = j - ct A j (2 * p) i by omega]
     have : 2 ^ (j - ct A j (2 * p) i) ≤ 2 ^ j := Nat.pow_le_pow_right (by decide) (by omega)
     omega
    ·rw [if_neg hiq, if_neg hiq, h5 i hi (by omega)]
     simp
   rw [e, sm2_add, sm2_ite, Nat.min_eq_left h2, Nat.mul_add, i2, Nat.pow_succ, ← h1, Nat.add_mul]
   have e2 : 2 * (q * 2 ^ j) = q * (2 ^ j * 2) := by rw [Nat.mul_comm 2, Nat.mul_assoc]
   have e3 : 2 * p * 2 ^ j = p * (2 ^ j * 2) := by rw [Nat.mul_comm 2 p, Nat.mul_assoc, Nat.mul_comm 2]
   omega
theorem whole {A : List Pk} (h : Lf A) {most : Nat} (hm : 1 ≤ most) (hn : A.length ≤ 2 ^ most) (h2 : 2 ≤ A.length) : (∀ i, i < A.length → 1 ≤ ct A most (2 * A.length - 2) i ∧ ct A most (2 * A.length - 2) i ≤ most) ∧ sm2 (fun i => 2 ^ (most - ct A most (2 * A.length - 2) i)) A.length = 2 ^ most := by
 obtain ⟨i1, i2⟩ := taken h most (2 * A.length - 2) (lv_enough hm hn)
 have hs : sm2 (fun i => (2 ^ most - 2 ^ (most - ct A most (2 * A.length - 2) i)) + 2 ^ (most - ct A most (2 * A.length - 2) i)) A.length = A.length * 2 ^ most := by
  rw [← sm2_const (2 ^ most) A.length]
  refine sm2_congr _ (fun i hi => ?_)
  have : 2 ^ (most - ct A most (2 * A.length - 2) i) ≤ 2 ^ most := Nat.pow_le_pow_right (by decide) (by omega)
  omega
 rw [sm2_add] at hs
 have hw : sm2 (fun i => 2 ^ (most - ct A most (2 * A.length - 2) i)) A.length = 2 ^ most := by
  obtain ⟨n, hn2⟩ : ∃ n, A.length = n + 2 := ⟨A.length - 2, by omega⟩
  rw [hn2] at i2 hs ⊢
  rw [show 2 * (n + 2) - 2 = 2 * (n + 1) by omega] at i2 hs ⊢
  rw [Nat.mul_assoc] at i2
  have e4 : (n + 2) * 2 ^ most = (n + 1) * 2 ^ most + 2 ^ most := by rw [show n + 2 = (n + 1) + 1 by omega, Nat.add_mul (n + 1), Nat.one_mul]
  omega
 refine ⟨fun i hi => ⟨?_, i1 i hi⟩, hw⟩
 rcases Nat.eq_zero_or_pos (ct A most (2 * A.length - 2) i) with h0 | h0
 ·have := sm2_one (f := fun i => 2 ^ (most - ct A most (2 * A.length - 2) i)) A.length hi (fun k _ => Nat.one_le_two_pow)
  simp only [h0, Nat.sub_zero] at this
  omega
 ·exact h0
end Go.PkM
namespace Go.PkM
open Go.HuffP
def putK (s : Nat → Int) (v : Nat → Int) (base : List Int) : Nat → List Int
 | 0 => base
 | k + 1 => (putK s v base k).set (s k).toNat (v k)
theorem putK_len (s v : Nat → Int) (base : List Int) : ∀ k, (putK s v base k).length = base.length
 | 0 => rfl
 | k + 1 => by rw [putK, List.length_set, putK_len s v base k]
theorem putK_out {s v : Nat → Int} {base : List Int} {x : Nat} : ∀ k, (∀ i, i < k → (s i).toNat ≠ x) → (putK s v base k).getD x 0 = base.getD x 0
 | 0, _ => rfl
 | k + 1, h => by
  rw [putK, List.getD_eq_getElem?_getD, List.getElem?_set_ne (h k (by omega)), ← List.getD_eq_getElem?_getD, putK_out k (fun i hi => h i (by omega))]
theorem putK_at {s v : Nat → Int} {base : List Int} : ∀ k i, i < k → (∀ i j, i < k → j < k → (s i).toNat = (s j).toNat → i = j) → (∀ i, i < k → (s i).toNat < base.length) → (putK s v base k).getD (s i).toNat 0 = v i
 | 0, i, h, _, _ => by omega
 | k + 1, i, h, hinj, hlt => by
  rw [putK, List.getD_eq_getElem?_getD]
  by_cases e : i = k
  ·subst e
   rw [List.getElem?_set_self (by rw [putK_len]; exact hlt i (by omega))]
   rfl
  ·rw [List.getElem?_set_ne (fun hh => e (hinj k i (by omega) h hh).symm), ← List.getD_eq_getElem?_getD]
   exact putK_at k i (by omega) (fun a b ha hb => hinj a b (by omega) (by omega)) (fun a ha => hlt a (by omega))
theorem putK_base {s v : Nat → Int} {b1 b2 : List Int} {n : Nat} (hl : b1.length = b2.length) (hinj : ∀ i j, i < n → j < n → (s i).toNat = (s j).toNat → i = j) (hlt : ∀ i, i < n → (s i).toNat < b1.length) (h : ∀ x, (∀ i, i < n → (s i).toNat ≠ x) → b1.getD x 0 = b2.getD x 0) : putK s v b1 n = putK s v b2 n := by
 refine List.ext_getElem (by rw [putK_len, putK_len, hl]) (fun x h1 h2 => ?_)
 have e : ∀ (l : List Int) (hx : x < l.length), l[x] = l.getD x 0 := fun l hx => by simp [hx]
 rw [e _ h1, e _ h2]
 by_cases hx : ∃ i, i < n ∧ (s i).toNat = x
 ·obtain ⟨i, hi, rfl⟩ := hx
  rw [putK_at n i hi hinj hlt, putK_at n i hi hinj (fun i hi => by rw [← hl]; exact hlt i hi)]
 ·have hx2 : ∀ i, i < n → (s i).toNat ≠ x := fun i hi he => hx ⟨i, hi, he⟩
  rw [putK_out n hx2, putK_out n hx2, h x hx2]
theorem full_set {l : List Int} {s : Nat} {v : Int} (hs : s < l.length) (h0 : l.getD s 0 = 0) (hv : 0 < v) : ∀ k, fullK (l.set s v) k = fullK l k + (if s < k then 2 ^ (15 - v.toNat) else 0)
 | 0 => by simp [fullK]
 | k + 1 => by
  simp only [fullK]
  rw [full_set hs h0 hv k]
  unfold lenOf
  by_cases e : s = k
  ·subst e
   have e1 : (l.set s v).getD s 0 = v := by rw [List.getD_eq_getElem?_getD, List.getElem?_set_self hs]; rfl
   rw [e1, h0, if_pos hv, if_neg (by omega), if_neg (by omega), if_pos (by omega)]
  ·have e1 : (l.set s v).getD k 0 = l.getD k 0 := by rw [List.getD_eq_getElem?_getD, List.getElem?_set_ne e, ← List.getD_eq_getElem?_getD]
   rw [e1]
   by_cases hk : s < k
   ·rw [if_pos hk, if_pos (show s < k + 1 by omega)]; exact Int.add_right_comm _ _ _
   ·rw [if_neg hk, if_neg (show ¬ s < k + 1 by omega), Int.add_zero, Int.add_zero]
theorem rep_zero (L x : Nat) : (List.replicate L (0 : Int)).getD x 0 = 0 := by
 rw [List.getD_eq_getElem?_getD, List.getElem?_replicate]; split <;> rfl
theorem full_putK {s v : Nat → Int} {L : Nat} : ∀ k, (∀ i j, i < k → j < k → (s i).toNat = (s j).toNat → i = j) → (∀ i, i < k → (s i).toNat < L) → (∀ i, i < k → 0 < v i) → fullK (putK s v (List.replicate L 0) k) L = (sm2 (fun i => 2 ^ (15 - (v i).toNat)) k : Int)
 | 0, _, _, _ => by
  have : ∀ k, fullK (List.replicate L 0) k = 0 := by
   intro k
   induction k with
   | zero => rfl
   | succ k ih => simp only [fullK]; rw [ih, rep_zero, if_neg (by omega)]; rfl
  rw [putK, this]; rfl
 | k + 1, hinj, hlt, hv => by
  have ih := full_putK k (fun a b ha hb => hinj a b (by omega) (by omega)) (fun a ha => hlt a (by omega)) (fun a ha => hv a (by omega))
  rw [putK, full_set (by rw [putK_len, List.length_replicate]; exact hlt k (by omega)) (by rw [putK_out k (fun i hi he => by have := hinj i k (by omega) (by omega) he; omega), rep_zero]) (hv k (by omega)), ih, if_pos (hlt k (by omega))]
  simp only [sm2]
  simp
theorem sm2_sum (f : Nat → Nat) : ∀ n, sm2 f n = ((List.range n).map f).sum
 | 0 => rfl
 | n + 1 => by rw [sm2, sm2_sum f n, List.range_succ, List.map_append, List.sum_append]; simp
theorem sm2_row (g : Int → Nat) (l : List Int) : sm2 (fun i => g (l.getD i 0)) l.length = (l.map g).sum := by
 rw [sm2_sum]
 congr 1
 refine List.ext_getElem (by simp) (fun i h1 h2 => ?_)
 have hi : i < l.length := by simpa using h2
 simp [hi]
theorem sum_perm {l1 l2 : List Int} (g : Int → Nat) (h : l1.Perm l2) : (l1.map g).sum = (l2.map g).sum := (h.map g).sum_nat
def cs (A : List Pk) (most : Nat) : List Int := (List.range A.length).map (fun i => (ct A most (2 * A.length - 2) i : Int))
theorem cs_len (A : List Pk) (most : Nat) : (cs A most).length = A.length := by simp [cs]
theorem cs_get {A : List Pk} {most i : Nat} (h : i < A.length) : (cs A most).getD i 0 = (ct A most (2 * A.length - 2) i : Int) := by simp [cs, h]
structure Ln (A : List Pk) (most : Nat) (vs : List Int) : Prop where
 perm : vs.Perm (cs A most)
 down : vs.Pairwise (fun x y => y ≤ x)
def out (A : List Pk) (vs : List Int) (L : Nat) : List Int := putK (sm A) (fun i => vs.getD i 0) (List.replicate L 0) A.length
structure Good (A : List Pk) (most L : Nat) (o : List Int) : Prop where
 len : o.length = L
 leaf : ∀ i, i < A.length → 1 ≤ o.getD (sm A i).toNat 0 ∧ o.getD (sm A i).toNat 0 ≤ most
 rest : ∀ x, (∀ i, i < A.length → (sm A i).toNat ≠ x) → o.getD x 0 = 0
 down : ∀ i j, i ≤ j → j < A.length → o.getD (sm A j).toNat 0 ≤ o.getD (sm A i).toNat 0
 code : newE o = 0
theorem newE_full {ls : List Int} (hl : ls.length ≤ 320) (hv : ∀ x ∈ ls, 0 ≤ x ∧ x ≤ 15) (hf : fullK ls ls.length = 32768) : newE ls = 0 := by
 have h0 := full_left hv ls.length (Nat.le_refl _)
 rw [List.take_length] at h0
 have h15 : left (cntL ls) 15 = 0 := by omega
 have hC := cntL_bound hl
 have hnn : ∀ n, n ≤ 15 → 0 ≤ left (cntL ls) (15 - n) := by
  intro n
  induction n with
  | zero => intro _; rw [Nat.sub_zero]; omega
  | succ n ih =>
   intro hn
   have h1 := ih (by omega)
   rw [show 15 - n = (15 - (n + 1)) + 1 by omega] at h1
   simp only [left] at h1
   have := (hC (15 - (n + 1) + 1)).1
   omega
 rw [newE_ok (by omega) hv, whole_yes (fun n _ h2 => by have := hnn (15 - n) (by omega); rw [show 15 - (15 - n) = n by omega] at this; exact this), h15]
 rfl
theorem good {A : List Pk} (h : Lf A) {most L : Nat} (hm : 1 ≤ most) (hm2 : most ≤ 15) (hn : A.length ≤ 2 ^ most) (h2 : 2 ≤ A.length) (hL : L ≤ 320) (hs : ∀ i, i < A.length → 0 ≤ sm A i ∧ sm A i < L) {vs : List Int} (hvs : Ln A most vs) : Good A most L (out A vs L) := by
 obtain ⟨hc, hw⟩ := whole h hm hn h2
 have hvl : vs.length = A.length := by rw [hvs.perm.length_eq, cs_len]
 have hvb : ∀ i, i < A.length → 1 ≤ vs.getD i 0 ∧ vs.getD i 0 ≤ most := by
  intro i hi
  have hmem : vs[i]'(by omega) ∈ cs A most := hvs.perm.mem_iff.1 (List.getElem_mem _)
  obtain ⟨k, hk, e⟩ := List.getElem_of_mem hmem
  rw [cs_len] at hk
  have e1 : vs.getD i 0 = vs[i]'(by omega) := by simp [show i < vs.length by omega]
  have e2 := cs_get (A := A) (most := most) hk
  have e3 : (cs A most).getD k 0 = (cs A most)[k]'(by rw [cs_len]; exact hk) := by simp [show k < (cs A most).length by rw [cs_len]; exact hk]
  have := hc k hk
  rw [e1, ← e, ← e3, e2]
  omega
 have hinj : ∀ i j, i < A.length → j < A.length → (sm A i).toNat = (sm A j).toNat → i = j := fun i j hi hj he => h.inj i j hi hj (by have := (hs i hi).1; have := (hs j hj).1; omega)
 have hlt : ∀ i, i < A.length → (sm A i).toNat < (List.replicate L (0 : Int)).length := fun i hi => by rw [List.length_replicate]; have := hs i hi; omega
 have hat : ∀ i, i < A.length → (out A vs L).getD (sm A i).toNat 0 = vs.getD i 0 := fun i hi => putK_at _ i hi hinj hlt
 have hrest : ∀ x, (∀ i, i < A.length → (sm A i).toNat ≠ x) → (out A vs L).getD x 0 = 0 := fun x hx => by
  unfold out
  rw [putK_out _ hx, rep_zero]
 have hlen : (out A vs L).length = L := by unfold out; rw [putK_len, List.length_replicate]
 refine ⟨hlen, fun i hi => by rw [hat i hi]; exact hvb i hi, hrest, fun i j hij hj => ?_, ?_⟩
 ·rw [hat i (by omega), hat j hj]
  have e1 : vs.getD i 0 = vs[i]'(by omega) := by simp [show i < vs.length by omega]
  have e2 : vs.getD j 0 = vs[j]'(by omega) := by simp [show j < vs.length by omega]
  rw [e1, e2]
  rcases Nat.lt_or_ge i j with hlt2 | hge
  ·exact List.pairwise_iff_getElem.1 hvs.down i j (by omega) (by omega) hlt2
  ·obtain rfl : i = j := by omega
   exact Int.le_refl _
 ·refine newE_full (by omega) (fun x hx => ?_) ?_
  ·obtain ⟨k, hk, rfl⟩ := List.getElem_of_mem hx
   have e1 : (out A vs L)[k] = (out A vs L).getD k 0 := by simp [hk]
   rw [e1]
   by_cases hx2 : ∃ i, i < A.length ∧ (sm A i).toNat = k
   ·obtain ⟨i, hi, rfl⟩ := hx2
    rw [hat i hi]
    have := hvb i hi
    omega
   ·rw [hrest k (fun i hi he => hx2 ⟨i, hi, he⟩)]
    omega
  ·rw [hlen]
   unfold out
   rw [full_putK A.length hinj (fun i hi => by have := hs i hi; omega) (fun i hi => by have := hvb i hi; omega)]
   have e1 : sm2 (fun i => 2 ^ (15 - (vs.getD i 0).toNat)) A.length = sm2 (fun i => 2 ^ (15 - most) * 2 ^ (most - ct A most (2 * A.length - 2) i)) A.length := by
    have q1 := sm2_row (fun x => 2 ^ (15 - x.toNat)) vs
    have q2 := sm2_row (fun x => 2 ^ (15 - x.toNat)) (cs A most)
    rw [hvl] at q1
    rw [cs_len] at q2
    rw [q1, sum_perm _ hvs.perm, ← q2]
    refine sm2_congr _ (fun i hi => ?_)
    rw [cs_get hi, ← Nat.pow_add]
    have := hc i hi
    congr 1
    omega
   have e2 : ∀ (c : Nat) (f : Nat → Nat) n, sm2 (fun i => c * f i) n = c * sm2 f n := by
    intro c f n
    induction n with
    | zero => rfl
    | succ n ih => simp only [sm2]; rw [ih, Nat.mul_add]
   rw [e1, e2, hw, ← Nat.pow_add, show 15 - most + most = 15 by omega]
   rfl
end Go.PkM
namespace Go.PkM
open Go.HuffP
def lvs (fr : List Int) (k : Nat) : List Pk := ((List.range k).filter (fun i => decide (0 < fr.getD i 0))).map (fun i : Nat => (fr.getD i 0, [(i : Int)]))
theorem lvs_yes {fr : List Int} {k : Nat} (h : 0 < fr.getD k 0) : lvs fr (k + 1) = lvs fr k ++ [(fr.getD k 0, [(k : Int)])] := by
 unfold lvs
 rw [List.range_succ, List.filter_append, List.map_append, List.filter_cons, if_pos (by simpa using h)]
 rfl
theorem lvs_no {fr : List Int} {k : Nat} (h : ¬ 0 < fr.getD k 0) : lvs fr (k + 1) = lvs fr k := by
 unfold lvs
 rw [List.range_succ, List.filter_append, List.map_append, List.filter_cons, if_neg (by simpa using h)]
 simp
theorem lvs_len (fr : List Int) (k : Nat) : (lvs fr k).length ≤ k := by
 unfold lvs
 rw [List.length_map]
 have := List.length_filter_le (fun i => decide (0 < fr.getD i 0)) (List.range k)
 simpa using this
theorem lvs_mem {fr : List Int} {k : Nat} {x : Pk} : x ∈ lvs fr k ↔ ∃ i : Nat, i < k ∧ 0 < fr.getD i 0 ∧ x = (fr.getD i 0, [(i : Int)]) := by
 unfold lvs
 simp only [List.mem_map, List.mem_filter, List.mem_range, decide_eq_true_eq]
 constructor
 ·rintro ⟨i, ⟨h1, h2⟩, rfl⟩; exact ⟨i, h1, h2, rfl⟩
 ·rintro ⟨i, h1, h2, rfl⟩; exact ⟨i, ⟨h1, h2⟩, rfl⟩
theorem lvs_nodup (fr : List Int) (k : Nat) : (lvs fr k).Nodup := by
 unfold lvs
 have h : ((List.range k).filter (fun i => decide (0 < fr.getD i 0))).Nodup := List.Pairwise.filter _ List.nodup_range
 refine List.pairwise_map.2 (List.Pairwise.imp ?_ h)
 intro a b hab hh
 have : [(a : Int)] = [(b : Int)] := congrArg Prod.snd hh
 have h3 : (a : Int) = (b : Int) := (List.cons.inj this).1
 exact hab (by omega)
theorem ss_perm {l l' : List Pk} (h : SS l l') : l'.Perm l := by
 refine List.perm_iff_count.2 (fun a => ?_)
 have h1 := h.filt a.1
 have e : ∀ l : List Pk, l.count a = (l.filter (fun x => decide (x.1 = a.1))).count a := fun l => (List.count_filter (by simp)).symm
 rw [e l', e l, h1]
theorem lf_of {fr : List Int} {k : Nat} {A : List Pk} (h : SS (lvs fr k) A) : Lf A ∧ (∀ i, i < A.length → 0 ≤ sm A i ∧ sm A i < k ∧ (A.getD i (0, [])) = (fr.getD (sm A i).toNat 0, [sm A i]) ∧ 0 < fr.getD (sm A i).toNat 0) ∧ A.length = (lvs fr k).length := by
 have hp := ss_perm h
 have hnd : A.Nodup := hp.nodup_iff.2 (lvs_nodup fr k)
 have hget : ∀ i (hi : i < A.length), A.getD i (0, []) = A[i] := fun i hi => by simp [hi]
 have hmem : ∀ i, i < A.length → ∃ j : Nat, j < k ∧ 0 < fr.getD j 0 ∧ A.getD i (0, []) = (fr.getD j 0, [(j : Int)]) := fun i hi => by
  rw [hget i hi]
  exact lvs_mem.1 (hp.mem_iff.1 (List.getElem_mem hi))
 have hall : ∀ i, i < A.length → 0 ≤ sm A i ∧ sm A i < k ∧ (A.getD i (0, [])) = (fr.getD (sm A i).toNat 0, [sm A i]) ∧ 0 < fr.getD (sm A i).toNat 0 := fun i hi => by
  obtain ⟨j, j1, j2, j3⟩ := hmem i hi
  have e : sm A i = (j : Int) := by unfold sm; rw [j3]; rfl
  rw [e]
  exact ⟨by omega, by omega, by rw [j3, Int.toNat_natCast], by rw [Int.toNat_natCast]; exact j2⟩
 refine ⟨⟨h.srt, fun i hi => by rw [(hall i hi).2.2.1], fun i j hi hj he => ?_, fun x hx => ?_⟩, hall, hp.length_eq⟩
 ·have h1 := (hall i hi).2.2.1
  have h2 := (hall j hj).2.2.1
  rw [hget i hi] at h1
  rw [hget j hj, ← he] at h2
  exact (List.getElem_inj hnd).1 (h1.trans h2.symm)
 ·obtain ⟨j, j1, j2, rfl⟩ := lvs_mem.1 (hp.mem_iff.1 hx)
  exact j2
def cO (L : Nat) (X : List Int) : List Int := (List.range L).map (fun k : Nat => (X.count (k : Int) : Int))
theorem cO_len (L : Nat) (X : List Int) : (cO L X).length = L := by simp [cO]
theorem cO_nil (L : Nat) : cO L [] = List.replicate L 0 := by
 refine List.ext_getElem (by simp [cO]) (fun i h1 h2 => by simp [cO])
theorem cO_get {L : Nat} {X : List Int} {x : Int} (h0 : 0 ≤ x) (h1 : x < L) : (cO L X).getD x.toNat 0 = (X.count x : Int) := by
 have : x.toNat < L := by omega
 simp [cO, this, Int.max_eq_left h0]
theorem cO_step {L : Nat} {X : List Int} {x : Int} (h0 : 0 ≤ x) (h1 : x < L) : (cO L X).set x.toNat ((cO L X).getD x.toNat 0 + 1) = cO L (X ++ [x]) := by
 rw [cO_get h0 h1]
 refine List.ext_getElem (by simp [cO]) (fun i h2 h3 => ?_)
 rw [cO_len] at h3
 rw [List.getElem_set]
 simp only [cO, List.getElem_map, List.getElem_range, List.count_append, List.count_singleton]
 by_cases e : x.toNat = i
 ·have e2 : x = (i : Int) := by omega
  rw [if_pos e, e2]
  simp
 ·have e2 : ¬ x = (i : Int) := fun hh => e (by omega)
  rw [if_neg e]
  simp [e2]
theorem cO_bound {L : Nat} {X : List Int} (i : Nat) : 0 ≤ (cO L X).getD i 0 ∧ (cO L X).getD i 0 ≤ X.length := by
 rcases Nat.lt_or_ge i L with h | h
 ·have := cO_get (L := L) (X := X) (x := (i : Int)) (by omega) (by omega)
  rw [Int.toNat_natCast] at this
  rw [this]
  have := List.count_le_length (a := (i : Int)) (l := X)
  omega
 ·have : (cO L X).getD i 0 = 0 := by simp [cO, show ¬ i < L by omega]
  rw [this]
  omega
theorem sy_leaf {A : List Pk} (h : Lf A) : ∀ j, ∀ e ∈ lv A j, ∀ s ∈ e.2, ∃ i, i < A.length ∧ s = sm A i
 | 0, e, he, s, hs => by simp [lv] at he
 | j + 1, e, he, s, hs => by
  have hprd : ∀ (l : List Pk), (∀ e ∈ l, ∀ s ∈ e.2, ∃ i, i < A.length ∧ s = sm A i) → ∀ e ∈ prd l, ∀ s ∈ e.2, ∃ i, i < A.length ∧ s = sm A i := by
   intro l
   induction l using prd.induct with
   | case1 a b l ih =>
    intro hl e he s hs
    simp only [prd, List.mem_cons] at he
    rcases he with rfl | he
    ·rcases List.mem_append.1 hs with hs | hs
     ·exact hl a (by simp) s hs
     ·exact hl b (by simp) s hs
    ·exact ih (fun y hy => hl y (by simp [hy])) e he s hs
   | case2 l hl2 =>
    intro hl e he s hs
    rw [prd] at he
    ·simp at he
    ·exact hl2
  rcases mrg_mem _ A _ rfl he with h1 | h1
  ·obtain ⟨k, hk, rfl⟩ := List.getElem_of_mem h1
   have h2 := h.one k hk
   have e1 : A.getD k (0, []) = A[k] := by simp [hk]
   rw [e1] at h2
   rw [h2] at hs
   exact ⟨k, hk, by simpa using hs⟩
  ·exact hprd _ (sy_leaf h j) e h1 s hs
theorem lv_bd {A : List Pk} (hA : ∀ x ∈ A, 0 ≤ x.1 ∧ x.1 ≤ 1048576 ∧ x.2.length = 1) : ∀ j, ∀ x ∈ lv A (j + 1), 0 ≤ x.1 ∧ x.1 ≤ 1048576 * 2 ^ j ∧ x.2.length ≤ 2 ^ j
 | j, x, hx => by
  have hprd : ∀ (M : Int) (N : Nat) (l : List Pk), (∀ e ∈ l, 0 ≤ e.1 ∧ e.1 ≤ M ∧ e.2.length ≤ N) → ∀ e ∈ prd l, 0 ≤ e.1 ∧ e.1 ≤ 2 * M ∧ e.2.length ≤ 2 * N := by
   intro M N l
   induction l using prd.induct with
   | case1 a b l ih =>
    intro hl e he
    simp only [prd, List.mem_cons] at he
    rcases he with rfl | he
    ·have h1 := hl a (by simp)
     have h2 := hl b (by simp)
     refine ⟨?_, ?_, ?_⟩
     ·show 0 ≤ a.1 + b.1; omega
     ·show a.1 + b.1 ≤ _; omega
     ·show (a.2 ++ b.2).length ≤ _; rw [List.length_append]; omega
    ·exact ih (fun y hy => hl y (by simp [hy])) e he
   | case2 l hl2 =>
    intro hl e he
    rw [prd] at he
    ·simp at he
    ·exact hl2
  have hp : ∀ j : Nat, (1 : Int) ≤ 2 ^ j ∧ 1 ≤ 2 ^ j := fun j => by
   have h1 : (1 : Nat) ≤ 2 ^ j := Nat.one_le_two_pow
   have h2 : ((2 : Int) ^ j) = ((2 ^ j : Nat) : Int) := by simp
   exact ⟨by rw [h2]; omega, h1⟩
  have hleaf : ∀ j, ∀ x ∈ A, 0 ≤ x.1 ∧ x.1 ≤ 1048576 * 2 ^ j ∧ x.2.length ≤ 2 ^ j := fun j x hx => by
   have h1 := hA x hx
   have h2 := hp j
   refine ⟨h1.1, ?_, by omega⟩
   have h3 : (1048576 : Int) * 1 ≤ 1048576 * 2 ^ j := Int.mul_le_mul_of_nonneg_left h2.1 (by decide)
   omega
  rcases mrg_mem _ A _ rfl hx with h1 | h1
  ·exact hleaf j x h1
  ·cases j with
   | zero => rw [lv] at h1; simp [prd] at h1
   | succ j =>
    have := hprd (1048576 * 2 ^ j) (2 ^ j) _ (fun e he => lv_bd hA j e he) x h1
    rw [Int.pow_succ, Nat.pow_succ]
    refine ⟨this.1, ?_, by omega⟩
    have e : (1048576 : Int) * (2 ^ j * 2) = 2 * (1048576 * 2 ^ j) := by rw [Int.mul_comm (2 ^ j) 2, ← Int.mul_assoc, Int.mul_comm 1048576 2, Int.mul_assoc]
    omega
theorem lv_max (A : List Pk) : ∀ j, (lv A j).length ≤ 2 * A.length
 | 0 => by simp [lv]
 | j + 1 => by rw [lv_len_succ]; have := lv_max A j; omega
theorem lv_one {A : List Pk} : lv A 1 = A := by rw [lv, lv, prd]; exact mrg_nil A; intro a b l h; cases h
theorem sy_succ {l : List Pk} {k : Nat} (h : k < l.length) : sy l k ++ (l.getD k (0, [])).2 = sy l (k + 1) := by
 unfold sy
 rw [List.take_add_one, List.getElem?_eq_getElem h, List.flatMap_append]
 simp [h]
theorem sy_len {l : List Pk} {N : Nat} (h : ∀ x ∈ l, x.2.length ≤ N) : ∀ k, (sy l k).length ≤ k * N
 | 0 => by simp [sy]
 | k + 1 => by
  have ih := sy_len h k
  rcases Nat.lt_or_ge k l.length with hk | hk
  ·rw [← sy_succ hk, List.length_append]
   have e1 : l.getD k (0, []) = l[k] := by simp [hk]
   have := h l[k] (List.getElem_mem hk)
   rw [e1, Nat.add_mul]
   omega
  ·have e : sy l (k + 1) = sy l k := by unfold sy; rw [List.take_of_length_le (by omega), List.take_of_length_le hk]
   rw [e, Nat.add_mul]
   omega
theorem cs_take {A : List Pk} {most k : Nat} (h : k < A.length) : (cs A most).take k ++ [(ct A most (2 * A.length - 2) k : Int)] = (cs A most).take (k + 1) := by
 rw [List.take_add_one, List.getElem?_eq_getElem (by rw [cs_len]; exact h)]
 simp [cs]
theorem putK_congr {s v w : Nat → Int} {base : List Int} : ∀ k, (∀ i, i < k → v i = w i) → putK s v base k = putK s w base k
 | 0, _ => rfl
 | k + 1, h => by rw [putK, putK, putK_congr k (fun i hi => h i (by omega)), h k (by omega)]
theorem ln_sort (A : List Pk) (most : Nat) : Ln A most ((cs A most).mergeSort fun x y => decide (x ≤ y)).reverse := by
 refine ⟨(List.reverse_perm _).trans (List.mergeSort_perm _ _), ?_⟩
 rw [List.pairwise_reverse]
 refine List.Pairwise.imp ?_ (List.pairwise_mergeSort (le := fun x y : Int => decide (x ≤ y)) (fun a b c h1 h2 => by simp at *; omega) (fun a b => by simp; omega) _)
 intro a b h
 simpa using h
theorem out_eq {A : List Pk} (h : Lf A) {most L : Nat} (hs : ∀ i, i < A.length → 0 ≤ sm A i ∧ sm A i < L) : putK (sm A) (fun i => ((cs A most).mergeSort fun x y => decide (x ≤ y)).getD (A.length - 1 - i) 0) (cO L (sy (lv A most) (2 * A.length - 2))) A.length = out A ((cs A most).mergeSort fun x y => decide (x ≤ y)).reverse L := by
 have hsl : ((cs A most).mergeSort fun x y => decide (x ≤ y)).length = A.length := by rw [List.length_mergeSort, cs_len]
 unfold out
 rw [putK_congr (w := fun i => (((cs A most).mergeSort fun x y => decide (x ≤ y)).reverse).getD i 0) A.length (fun i hi => by
  rw [List.getD_eq_getElem?_getD, List.getD_eq_getElem?_getD, List.getElem?_reverse (by rw [hsl]; exact hi), hsl])]
 refine putK_base (by rw [cO_len, List.length_replicate]) (fun i j hi hj he => h.inj i j hi hj (by have := (hs i hi).1; have := (hs j hj).1; omega)) (fun i hi => by rw [cO_len]; have := hs i hi; omega) (fun x hx => ?_)
 rw [rep_zero]
 rcases Nat.lt_or_ge x L with hxL | hxL
 ·have := cO_get (L := L) (X := sy (lv A most) (2 * A.length - 2)) (x := (x : Int)) (by omega) (by omega)
  rw [Int.toNat_natCast] at this
  rw [this]
  have : (sy (lv A most) (2 * A.length - 2)).count (x : Int) = 0 := by
   rw [List.count_eq_zero]
   intro hm
   obtain ⟨e, he, hse⟩ := List.mem_flatMap.1 hm
   obtain ⟨i, hi, hse2⟩ := sy_leaf h most e (List.mem_of_mem_take he) _ hse
   exact hx i hi (by rw [← hse2]; omega)
  rw [this]; rfl
 ·simp [cO, show ¬ x < L by omega]
structure GoodL (fr : List Int) (most : Nat) (o : List Int) : Prop where
 len : o.length = fr.length
 code : newE o = 0
 pos : ∀ i, i < fr.length → 0 < fr.getD i 0 → 1 ≤ o.getD i 0 ∧ o.getD i 0 ≤ most
 zero : ∀ i, i < fr.length → ¬ 0 < fr.getD i 0 → o.getD i 0 = 0
 one : (lvs fr fr.length).length = 1 → ∀ i, o.getD i 0 ≤ 1
 down : ∀ i k, i < fr.length → k < fr.length → fr.getD k 0 < fr.getD i 0 → 0 < fr.getD k 0 → o.getD i 0 ≤ o.getD k 0
theorem goodL {fr : List Int} {A : List Pk} (h : SS (lvs fr fr.length) A) {most : Nat} (hm : 1 ≤ most) (hm2 : most ≤ 15) (hL : fr.length ≤ 320) (h2 : 2 ≤ A.length) (hn : A.length ≤ 2 ^ most) : GoodL fr most (out A ((cs A most).mergeSort fun x y => decide (x ≤ y)).reverse fr.length) := by
 obtain ⟨hLf, hall, hlen⟩ := lf_of h
 have hg := good hLf hm hm2 hn h2 hL (fun i hi => ⟨(hall i hi).1, (hall i hi).2.1⟩) (ln_sort A most)
 have hof : ∀ x, x < fr.length → 0 < fr.getD x 0 → ∃ i, i < A.length ∧ sm A i = (x : Int) := fun x hx hp => by
  have hm3 : (fr.getD x 0, [(x : Int)]) ∈ A := (ss_perm h).mem_iff.2 (lvs_mem.2 ⟨x, hx, hp, rfl⟩)
  obtain ⟨i, hi, he⟩ := List.getElem_of_mem hm3
  refine ⟨i, hi, ?_⟩
  have e1 : A.getD i (0, []) = A[i] := by simp [hi]
  unfold sm
  rw [e1, he]; rfl
 refine ⟨hg.len, hg.code, fun x hx hp => ?_, fun x hx hp => ?_, fun h1 => by omega, fun x y hx hy hlt hpos => ?_⟩
 ·obtain ⟨i, hi, e⟩ := hof x hx hp
  have := hg.leaf i hi
  rw [e, Int.toNat_natCast] at this
  exact this
 ·refine hg.rest x (fun i hi he => hp ?_)
  have := (hall i hi).2.2.2
  rw [he] at this
  exact this
 ·obtain ⟨i, hi, ei⟩ := hof x hx (by omega)
  obtain ⟨k, hk, ek⟩ := hof y hy hpos
  have hki : k ≤ i := by
   rcases Nat.lt_or_ge i k with hik | hik
   ·exfalso
    have hs := List.pairwise_iff_getElem.1 h.srt i k hi hk hik
    have e1 : A.getD i (0, []) = A[i] := by simp [hi]
    have e2 : A.getD k (0, []) = A[k] := by simp [hk]
    rw [← e1, ← e2, (hall i hi).2.2.1, (hall k hk).2.2.1, ei, ek] at hs
    simp only [Int.toNat_natCast] at hs
    omega
   ·exact hik
  have := hg.down k i hki hi
  rw [ei, ek, Int.toNat_natCast, Int.toNat_natCast] at this
  exact this
theorem newE_less {ls : List Int} (hl : ls.length ≤ 320) (hv : ∀ x ∈ ls, 0 ≤ x ∧ x ≤ 15) (hf : fullK ls ls.length ≤ 32768) (hp : (posn ls).length = 0 ∨ ((posn ls).length = 1 ∧ (cntL ls).getD 1 0 = 1)) : newE ls = 0 := by
 have h0 := full_left hv ls.length (Nat.le_refl _)
 rw [List.take_length] at h0
 have hC := cntL_bound hl
 have hnn : ∀ n, n ≤ 15 → 0 ≤ left (cntL ls) (15 - n) := by
  intro n
  induction n with
  | zero => intro _; rw [Nat.sub_zero]; omega
  | succ n ih =>
   intro hn
   have h1 := ih (by omega)
   rw [show 15 - n = (15 - (n + 1)) + 1 by omega] at h1
   simp only [left] at h1
   have := (hC (15 - (n + 1) + 1)).1
   omega
 rw [newE_ok (by omega) hv, whole_yes (fun n _ h2 => by have := hnn (15 - n) (by omega); rw [show 15 - (15 - n) = n by omega] at this; exact this)]
 rcases hp with h | ⟨h3, h4⟩
 ·rw [h]; simp
 ·rw [h3, h4]; simp
theorem filt_eq {L s : Nat} (h : s < L) {q : Nat → Bool} (hq : ∀ i, i < L → (q i = true ↔ i = s)) : ((List.range L).filter q).length = 1 := by
 have e : (List.range L).filter q = (List.range L).filter (fun i => i == s) := by
  refine List.filter_congr (fun i hi => ?_)
  have := hq i (List.mem_range.1 hi)
  by_cases e : i = s
  ·rw [this.2 e]; simp [e]
  ·have : q i = false := by
    cases hqi : q i with
    | false => rfl
    | true => exact absurd (this.1 hqi) e
   rw [this]; simp [e]
 have h2 : (List.range L).count s = 1 := by
  rw [List.nodup_range.count, if_pos (List.mem_range.2 h)]
 rw [e, ← List.count_eq_length_filter]
 exact h2
theorem good0 {fr : List Int} {most : Nat} (hL : fr.length ≤ 320) (h0 : (lvs fr fr.length).length = 0) : GoodL fr most (List.replicate fr.length 0) := by
 have hno : ∀ i, i < fr.length → ¬ 0 < fr.getD i 0 := fun i hi hp => by
  have : (fr.getD i 0, [(i : Int)]) ∈ lvs fr fr.length := lvs_mem.2 ⟨i, hi, hp, rfl⟩
  have := List.length_pos_of_mem this
  omega
 have hfk : ∀ k, fullK (List.replicate fr.length 0) k = 0 := by
  intro k
  induction k with
  | zero => rfl
  | succ k ih => simp only [fullK]; rw [ih, rep_zero, if_neg (by omega)]; rfl
 refine ⟨by simp, newE_less (by simpa using hL) (fun x hx => by rw [List.eq_of_mem_replicate hx]; omega) (by rw [hfk]; omega) (.inl ?_), fun i hi hp => absurd hp (hno i hi), fun i _ _ => rep_zero _ _, fun h1 => by omega, fun i k hi hk h1 h2 => absurd h2 (hno k hk)⟩
 unfold posn
 rw [List.length_map, List.length_eq_zero_iff, List.filter_eq_nil_iff]
 intro i _
 rw [rep_zero]; simp
theorem good1 {fr : List Int} {most : Nat} (hm : 1 ≤ most) (hL : fr.length ≤ 320) {s : Nat} {w : Int} (h1 : lvs fr fr.length = [(w, [(s : Int)])]) : s < fr.length ∧ GoodL fr most ((List.replicate fr.length 0).set s 1) := by
 obtain ⟨i, hi, hp, he⟩ := lvs_mem.1 (show (w, [(s : Int)]) ∈ lvs fr fr.length by rw [h1]; simp)
 have hsi : s = i := by have h5 : (s : Int) = (i : Int) := (List.cons.inj (congrArg Prod.snd he)).1; omega
 subst hsi
 have honly : ∀ i, i < fr.length → 0 < fr.getD i 0 → i = s := fun i hi hp => by
  have : (fr.getD i 0, [(i : Int)]) ∈ lvs fr fr.length := lvs_mem.2 ⟨i, hi, hp, rfl⟩
  rw [h1, List.mem_singleton] at this
  have h5 : (i : Int) = (s : Int) := (List.cons.inj (congrArg Prod.snd this)).1
  omega
 have hs : s < (List.replicate fr.length (0 : Int)).length := by simpa using hi
 have hself : ((List.replicate fr.length (0 : Int)).set s 1).getD s 0 = 1 := by rw [List.getD_eq_getElem?_getD, List.getElem?_set_self hs]; rfl
 have hne : ∀ x, x ≠ s → ((List.replicate fr.length (0 : Int)).set s 1).getD x 0 = 0 := fun x hx => by rw [List.getD_eq_getElem?_getD, List.getElem?_set_ne (Ne.symm hx), ← List.getD_eq_getElem?_getD, rep_zero]
 have hlen : ((List.replicate fr.length (0 : Int)).set s 1).length = fr.length := by simp
 have hv : ∀ x ∈ (List.replicate fr.length (0 : Int)).set s 1, 0 ≤ x ∧ x ≤ 15 := fun x hx => by
  rcases List.mem_or_eq_of_mem_set hx with h | h
  ·rw [List.eq_of_mem_replicate h]; omega
  ·rw [h]; omega
 have hfk : ∀ k, fullK (List.replicate fr.length 0) k = 0 := by
  intro k
  induction k with
  | zero => rfl
  | succ k ih => simp only [fullK]; rw [ih, rep_zero, if_neg (by omega)]; rfl
 have hiff : ∀ i, ((List.replicate fr.length (0 : Int)).set s 1).getD i 0 = (if i = s then 1 else 0) := fun i => by
  split
  ·rename_i e; rw [e, hself]
  ·rename_i e; exact hne i e
 refine ⟨hi, hlen, newE_less (by omega) hv ?_ (.inr ⟨?_, ?_⟩), fun x hx hp2 => ?_, fun x hx hp2 => hne x (fun e => hp2 (by rw [e]; exact hp)), fun _ x => ?_, fun x y hx hy hlt hpos => ?_⟩
 ·rw [hlen, full_set hs (rep_zero _ _) (by omega), hfk]
  split <;> decide
 ·unfold posn
  rw [List.length_map, hlen]
  refine filt_eq hi (fun i _ => ?_)
  rw [hiff]
  by_cases e : i = s <;> simp [e]
 ·rw [cntL_get (by omega)]
  unfold cnt
  rw [if_neg (by omega)]
  unfold cls
  rw [List.length_map, hlen, filt_eq hi (fun i _ => by rw [hiff]; by_cases e : i = s <;> simp [e])]
  rfl
 ·rw [honly x hx hp2, hself]; omega
 ·rw [hiff]; split <;> omega
 ·have e1 := honly y hy hpos
  have e2 := honly x hx (by omega)
  rw [e1, e2]; omega
end Go.PkM
namespace Go.PkM
open Go.HuffP
def insP (x : Pk) : List Pk → List Pk
 | [] => [x]
 | y :: ys => if x.1 ≤ y.1 then x :: y :: ys else y :: insP x ys
def srtP : List Pk → List Pk
 | [] => []
 | x :: xs => insP x (srtP xs)
theorem insP_mem {x z : Pk} : ∀ {l : List Pk}, z ∈ insP x l → z = x ∨ z ∈ l
 | [], h => .inl (by simpa [insP] using h)
 | y :: ys, h => by
  unfold insP at h
  split at h
  ·rcases List.mem_cons.1 h with h | h
   ·exact .inl h
   ·exact .inr h
  ·rcases List.mem_cons.1 h with h | h
   ·exact .inr (List.mem_cons.2 (.inl h))
   ·rcases insP_mem h with h | h
    ·exact .inl h
    ·exact .inr (List.mem_cons.2 (.inr h))
theorem insP_srt {x : Pk} : ∀ {l : List Pk}, Srt l → Srt (insP x l)
 | [], _ => by simp [insP]
 | y :: ys, h => by
  have h2 := List.pairwise_cons.1 h
  unfold insP
  split
  ·rename_i hc
   refine List.pairwise_cons.2 ⟨fun z hz => ?_, h⟩
   rcases List.mem_cons.1 hz with rfl | hz
   ·exact hc
   ·have := h2.1 z hz; omega
  ·rename_i hc
   refine List.pairwise_cons.2 ⟨fun z hz => ?_, insP_srt h2.2⟩
   rcases insP_mem hz with rfl | hz
   ·omega
   ·exact h2.1 z hz
theorem insP_filt (c : Int) {x : Pk} : ∀ {l : List Pk}, Srt l → (insP x l).filter (fun z => decide (z.1 = c)) = (x :: l).filter (fun z => decide (z.1 = c))
 | [], _ => by simp [insP]
 | y :: ys, h => by
  have h2 := List.pairwise_cons.1 h
  unfold insP
  split
  ·rfl
  ·rename_i hc
   rw [List.filter_cons, insP_filt c h2.2]
   by_cases hx : x.1 = c
   ·have hy : ¬ y.1 = c := by omega
    simp [List.filter_cons, hx, hy]
   ·simp [List.filter_cons, hx]
theorem srtP_srt : ∀ l : List Pk, Srt (srtP l)
 | [] => by simp [srtP]
 | x :: xs => insP_srt (srtP_srt xs)
theorem srtP_filt (c : Int) : ∀ l : List Pk, (srtP l).filter (fun z => decide (z.1 = c)) = l.filter (fun z => decide (z.1 = c))
 | [] => rfl
 | x :: xs => by
  show (insP x (srtP xs)).filter _ = _
  rw [insP_filt c (srtP_srt xs), List.filter_cons, srtP_filt c xs, List.filter_cons]
theorem ss_srtP {l A : List Pk} (h : SS l A) : A = srtP l := by
 have h1 : SS (srtP l ++ []) A := ⟨h.srt, fun c => by rw [List.append_nil, srtP_filt, h.filt]⟩
 have h2 := h1.eq (srtP_srt l) List.Pairwise.nil
 rw [mrg_nil] at h2
 exact h2
def lenF (fr : List Int) (most : Nat) : List Int :=
 match lvs fr fr.length with
 | [] => List.replicate fr.length 0
 | [x] => (List.replicate fr.length 0).set (x.2.headD 0).toNat 1
 | l => out (srtP l) ((cs (srtP l) most).mergeSort fun x y => decide (x ≤ y)).reverse fr.length
structure GoodX (fr : List Int) (most : Nat) (o : List Int) : Prop extends GoodL fr most o where
 det : o = lenF fr most
theorem goodLX {fr : List Int} {A : List Pk} (h : SS (lvs fr fr.length) A) {most : Nat} (hm : 1 ≤ most) (hm2 : most ≤ 15) (hL : fr.length ≤ 320) (h2 : 2 ≤ A.length) (hn : A.length ≤ 2 ^ most) : GoodX fr most (out A ((cs A most).mergeSort fun x y => decide (x ≤ y)).reverse fr.length) := by
 refine ⟨goodL h hm hm2 hL h2 hn, ?_⟩
 have hlen : A.length = (lvs fr fr.length).length := (ss_perm h).length_eq
 have hA := ss_srtP h
 unfold lenF
 match hl : lvs fr fr.length, hlen with
 | [], hlen => simp at hlen; subst hlen; simp at h2
 | [x], hlen => simp at hlen; omega
 | x :: y :: l, _ => rw [hA, hl]
theorem good0X {fr : List Int} {most : Nat} (hL : fr.length ≤ 320) (h0 : (lvs fr fr.length).length = 0) : GoodX fr most (List.replicate fr.length 0) := by
 refine ⟨good0 hL h0, ?_⟩
 unfold lenF
 rw [List.length_eq_zero_iff.1 h0]
theorem good1X {fr : List Int} {most : Nat} (hm : 1 ≤ most) (hL : fr.length ≤ 320) {s : Nat} {w : Int} (h1 : lvs fr fr.length = [(w, [(s : Int)])]) : s < fr.length ∧ GoodX fr most ((List.replicate fr.length 0).set s 1) := by
 refine ⟨(good1 hm hL h1).1, (good1 (most := most) hm hL h1).2, ?_⟩
 unfold lenF
 rw [h1]
 rfl
end Go.PkM
namespace Go.DefP
open Go.BitP Go.HuffP Go.InfP
def mxK (fr : List Int) : Nat → Int
 | 0 => 0
 | k + 1 => if mxK fr k < fr.getD k 0 then fr.getD k 0 else mxK fr k
theorem mxK_ge (fr : List Int) : ∀ k, 0 ≤ mxK fr k
 | 0 => Int.le_refl _
 | k + 1 => by have := mxK_ge fr k; simp only [mxK]; split <;> omega
theorem mxK_at (fr : List Int) : ∀ k i, i < k → fr.getD i 0 ≤ mxK fr k
 | 0, i, h => by omega
 | k + 1, i, h => by
  have h1 := mxK_at fr k i
  simp only [mxK]
  split
  ·rcases Nat.lt_or_ge i k with h2 | h2
   ·have := h1 h2; omega
   ·obtain rfl : i = k := by omega
    exact Int.le_refl _
  ·rcases Nat.lt_or_ge i k with h2 | h2
   ·exact h1 h2
   ·obtain rfl : i = k := by omega
    omega
theorem mxK_le {fr : List Int} {N : Int} (hN : 0 ≤ N) (h : ∀ i, fr.getD i 0 ≤ N) : ∀ k, mxK fr k ≤ N
 | 0 => hN
 | k + 1 => by have := mxK_le hN h k; have := h k; simp only [mxK]; split <;> omega
def dnG (x : Int) : Nat → Nat → Nat
 | 0, m => m
 | f + 1, m => if 1048576 < x / 2 ^ m then dnG x f (m + 1) else m
def dn (fr : List Int) : Nat := dnG (mxK fr fr.length) 16 0
theorem dnG_end {x : Int} {k : Nat} (h : ¬ 1048576 < x / 2 ^ k) : ∀ f, dnG x f k = k
 | 0 => rfl
 | f + 1 => if_neg h
theorem dnG_next {x : Int} {k : Nat} (hk : k < 16) (h : 1048576 < x / 2 ^ k) : dnG x (16 - k) k = dnG x (16 - (k + 1)) (k + 1) := by
 rw [show 16 - k = (16 - (k + 1)) + 1 by omega]
 exact if_pos h
theorem div_lt4 {x : Int} {k : Nat} (hx : 0 ≤ x ∧ x ≤ 8388608) (hk : 4 ≤ k) : ¬ 1048576 < x / 2 ^ k := by
 have h1 : x / 2 ^ k ≤ x / 2 ^ 4 := by
  rw [show k = 4 + (k - 4) by omega, Int.pow_add, ← Int.ediv_ediv_of_nonneg (by decide)]
  exact Int.ediv_le_self _ (Int.ediv_nonneg (by omega) (by decide))
 have : (2 : Int) ^ 4 = 16 := by decide
 rw [this] at h1
 omega
theorem dnG_ok {x : Int} (hx : 0 ≤ x ∧ x ≤ 8388608) : ∀ f k, f + k = 16 → k ≤ 4 → ¬ 1048576 < x / 2 ^ dnG x f k ∧ dnG x f k ≤ 4
 | 0, k, h, hk => by omega
 | f + 1, k, h, hk => by
  simp only [dnG]
  split
  ·rename_i hc
   have hk2 : k < 4 := by
    rcases Nat.lt_or_ge k 4 with h1 | h1
    ·exact h1
    ·exact absurd hc (div_lt4 hx h1)
   exact dnG_ok hx f (k + 1) (by omega) (by omega)
  ·rename_i hc
   exact ⟨hc, hk⟩
def rr (d : Nat) (x : Int) : Int := if 0 < x then (if 1 < x / 2 ^ d then x / 2 ^ d else 1) else x
def rarK (fr : List Int) (d : Nat) : Nat → List Int
 | 0 => fr
 | k + 1 => (rarK fr d k).set k (rr d (fr.getD k 0))
theorem rarK_len (fr : List Int) (d : Nat) : ∀ k, (rarK fr d k).length = fr.length
 | 0 => rfl
 | k + 1 => by simp only [rarK, List.length_set]; exact rarK_len fr d k
theorem rarK_get (fr : List Int) (d : Nat) : ∀ k i, i < fr.length → (rarK fr d k).getD i 0 = if i < k then rr d (fr.getD i 0) else fr.getD i 0
 | 0, i, _ => by simp [rarK]
 | k + 1, i, h => by
  have ih := rarK_get fr d k i h
  have hl := rarK_len fr d k
  simp only [rarK]
  by_cases e : i = k
  ·subst e
   rw [List.getD_eq_getElem?_getD, List.getElem?_set_self (by omega), if_pos (by omega)]; rfl
  ·rw [List.getD_eq_getElem?_getD, List.getElem?_set_ne (Ne.symm e), ← List.getD_eq_getElem?_getD, ih]
   by_cases h2 : i < k
   ·rw [if_pos h2, if_pos (by omega)]
   ·rw [if_neg h2, if_neg (by omega)]
theorem rarK_no {fr : List Int} {d k : Nat} (hk : k < fr.length) (h : ¬ 0 < fr.getD k 0) : rarK fr d (k + 1) = rarK fr d k := by
 have hg := rarK_get fr d k k hk
 rw [if_neg (by omega)] at hg
 have hl := rarK_len fr d k
 simp only [rarK]
 rw [show rr d (fr.getD k 0) = fr.getD k 0 from if_neg h, ← hg]
 refine List.ext_getElem? fun i => ?_
 by_cases e : i = k
 ·subst e
  rw [List.getElem?_set_self (by omega), List.getD_eq_getElem?_getD, List.getElem?_eq_getElem (by omega)]; rfl
 ·rw [List.getElem?_set_ne (Ne.symm e)]
theorem rarK_yes {fr : List Int} {d k : Nat} (h : 0 < fr.getD k 0) : rarK fr d (k + 1) = (rarK fr d k).set k (if 1 < fr.getD k 0 / 2 ^ d then fr.getD k 0 / 2 ^ d else 1) := by
 simp only [rarK]; rw [show rr d (fr.getD k 0) = _ from if_pos h]
def rarF (fr : List Int) : List Int := rarK fr (dn fr) fr.length
theorem rarF_len (fr : List Int) : (rarF fr).length = fr.length := rarK_len _ _ _
theorem rarF_get (fr : List Int) {i : Nat} (h : i < fr.length) : (rarF fr).getD i 0 = rr (dn fr) (fr.getD i 0) := by
 unfold rarF; rw [rarK_get _ _ _ _ h, if_pos h]
theorem rarF_pos {fr : List Int} {i : Nat} (h : i < fr.length) : 0 < (rarF fr).getD i 0 ↔ 0 < fr.getD i 0 := by
 rw [rarF_get _ h]; unfold rr
 split
 ·split <;> omega
 ·rfl
theorem rarF_ok {fr : List Int} (hb : ∀ i, 0 ≤ fr.getD i 0 ∧ fr.getD i 0 ≤ 8388608) {i : Nat} (h : i < fr.length) : 0 ≤ (rarF fr).getD i 0 ∧ (rarF fr).getD i 0 ≤ 1048576 := by
 have hm0 := mxK_ge fr fr.length
 have hm1 := mxK_le (N := 8388608) (by decide) (fun i => (hb i).2) fr.length
 have hm2 := mxK_at fr fr.length i h
 have h1 := (dnG_ok (x := mxK fr fr.length) ⟨hm0, hm1⟩ 16 0 rfl (by omega)).1
 rw [rarF_get _ h]
 unfold rr dn
 generalize dnG (mxK fr fr.length) 16 0 = d at *
 have hp : (0 : Int) < 2 ^ d := Int.pow_pos (by decide)
 have h2 : fr.getD i 0 / 2 ^ d ≤ mxK fr fr.length / 2 ^ d := Int.ediv_le_ediv hp hm2
 have h3 : 0 ≤ fr.getD i 0 / 2 ^ d := Int.ediv_nonneg (hb i).1 (by omega)
 have h4 := (hb i).1
 split
 ·split <;> omega
 ·omega
def incr (l : List Int) (s : Int) : List Int := l.set s.toNat (l.getD s.toNat 0 + 1)
theorem incr_len (l : List Int) (s : Int) : (incr l s).length = l.length := by simp [incr]
theorem incr_get (l : List Int) (s : Int) {i : Nat} (h : i < l.length) : (incr l s).getD i 0 = l.getD i 0 + (if i = s.toNat then 1 else 0) := by
 unfold incr
 by_cases e : i = s.toNat
 ·subst e; rw [List.getD_eq_getElem?_getD, List.getElem?_set_self h, if_pos rfl]; rfl
 ·rw [List.getD_eq_getElem?_getD, List.getElem?_set_ne (Ne.symm e), ← List.getD_eq_getElem?_getD, if_neg e, Int.add_zero]
def symA (t : Tok) : Int := if t.n = 0 then t.lit else lnSm t.n
def cntA : List Tok → List Int → List Int
 | [], a => a
 | t :: l, a => cntA l (incr a (symA t))
def cntB : List Tok → List Int → List Int
 | [], b => b
 | t :: l, b => cntB l (if t.n = 0 then b else incr b (dsSm t.far))
def cA0 : List Int := (List.replicate 286 0).set 256 1
def cB0 : List Int := List.replicate 30 0
theorem cntA_app (t : Tok) : ∀ (l : List Tok) (a : List Int), cntA (l ++ [t]) a = incr (cntA l a) (symA t)
 | [], a => rfl
 | x :: l, a => cntA_app t l _
theorem cntB_app (t : Tok) : ∀ (l : List Tok) (b : List Int), cntB (l ++ [t]) b = if t.n = 0 then cntB l b else incr (cntB l b) (dsSm t.far)
 | [], b => rfl
 | x :: l, b => cntB_app t l _
theorem take_app {l : List Tok} {k : Nat} (h : k < l.length) : l.take (k + 1) = l.take k ++ [l[k]] := by
 rw [List.take_add_one, List.getElem?_eq_getElem h]; rfl
theorem cntA_lit {l : List Tok} {k : Nat} (h : k < l.length) (a : List Int) (h0 : (l[k]).n = 0) : incr (cntA (l.take k) a) (l[k]).lit = cntA (l.take (k + 1)) a := by
 rw [take_app h, cntA_app, symA, if_pos h0]
theorem cntA_cp {l : List Tok} {k : Nat} (h : k < l.length) (a : List Int) (h0 : (l[k]).n ≠ 0) : incr (cntA (l.take k) a) (lnSm (l[k]).n) = cntA (l.take (k + 1)) a := by
 rw [take_app h, cntA_app, symA, if_neg h0]
theorem cntB_lit {l : List Tok} {k : Nat} (h : k < l.length) (b : List Int) (h0 : (l[k]).n = 0) : cntB (l.take k) b = cntB (l.take (k + 1)) b := by
 rw [take_app h, cntB_app, if_pos h0]
theorem cntB_cp {l : List Tok} {k : Nat} (h : k < l.length) (b : List Int) (h0 : (l[k]).n ≠ 0) : incr (cntB (l.take k) b) (dsSm (l[k]).far) = cntB (l.take (k + 1)) b := by
 rw [take_app h, cntB_app, if_neg h0]
theorem cntA_len : ∀ (l : List Tok) (a : List Int), (cntA l a).length = a.length
 | [], a => rfl
 | t :: l, a => (cntA_len l _).trans (incr_len _ _)
theorem cntB_len : ∀ (l : List Tok) (b : List Int), (cntB l b).length = b.length
 | [], b => rfl
 | t :: l, b => (cntB_len l _).trans (by split; rfl; exact incr_len _ _)
theorem cntA_bd {N : Int} : ∀ (l : List Tok) (a : List Int), (∀ i, i < a.length → 0 ≤ a.getD i 0 ∧ a.getD i 0 ≤ N) → ∀ i, i < a.length → 0 ≤ (cntA l a).getD i 0 ∧ (cntA l a).getD i 0 ≤ N + l.length
 | [], a, h, i, hi => by have := h i hi; simp only [cntA, List.length_nil]; omega
 | t :: l, a, h, i, hi => by
  have := cntA_bd (N := N + 1) l (incr a (symA t)) (fun j hj => by
   rw [incr_len] at hj
   have := h j hj
   rw [incr_get _ _ hj]; split <;> omega) i (by rw [incr_len]; exact hi)
  simp only [cntA, List.length_cons]; omega
theorem cntB_bd {N : Int} : ∀ (l : List Tok) (b : List Int), (∀ i, i < b.length → 0 ≤ b.getD i 0 ∧ b.getD i 0 ≤ N) → ∀ i, i < b.length → 0 ≤ (cntB l b).getD i 0 ∧ (cntB l b).getD i 0 ≤ N + l.length
 | [], b, h, i, hi => by have := h i hi; simp only [cntB, List.length_nil]; omega
 | t :: l, b, h, i, hi => by
  have := cntB_bd (N := N + 1) l (if t.n = 0 then b else incr b (dsSm t.far)) (fun j hj => by
   split
   ·rename_i e; rw [if_pos e] at hj; have := h j hj; omega
   ·rename_i e; rw [if_neg e, incr_len] at hj
    have := h j hj
    rw [incr_get _ _ hj]; split <;> omega) i (by split; exact hi; rw [incr_len]; exact hi)
  simp only [cntB, List.length_cons]; omega
theorem cntA_mono : ∀ (l : List Tok) (a : List Int) {i : Nat}, i < a.length → a.getD i 0 ≤ (cntA l a).getD i 0
 | [], a, i, hi => Int.le_refl _
 | t :: l, a, i, hi => by
  have h1 := cntA_mono l (incr a (symA t)) (i := i) (by rw [incr_len]; exact hi)
  rw [incr_get _ _ hi] at h1
  simp only [cntA]
  split at h1 <;> omega
theorem cntB_mono : ∀ (l : List Tok) (b : List Int) {i : Nat}, i < b.length → b.getD i 0 ≤ (cntB l b).getD i 0
 | [], b, i, hi => Int.le_refl _
 | t :: l, b, i, hi => by
  have h1 := cntB_mono l (if t.n = 0 then b else incr b (dsSm t.far)) (i := i) (by split; exact hi; rw [incr_len]; exact hi)
  have h2 : b.getD i 0 ≤ (if t.n = 0 then b else incr b (dsSm t.far)).getD i 0 := by
   split
   ·exact Int.le_refl _
   ·rw [incr_get _ _ hi]; split <;> omega
  simp only [cntB]; omega
theorem cntA_has : ∀ (l : List Tok) (a : List Int), (∀ i, i < a.length → 0 ≤ a.getD i 0) → ∀ t ∈ l, (symA t).toNat < a.length → 0 < (cntA l a).getD (symA t).toNat 0
 | x :: l, a, h0, t, ht, hs => by
  simp only [cntA]
  rcases List.mem_cons.1 ht with rfl | ht
  ·have h1 := cntA_mono l (incr a (symA t)) (i := (symA t).toNat) (by rw [incr_len]; exact hs)
   rw [incr_get _ _ hs, if_pos rfl] at h1
   have := h0 _ hs; omega
  ·refine cntA_has l (incr a (symA x)) (fun i hi => ?_) t ht (by rw [incr_len]; exact hs)
   rw [incr_len] at hi
   rw [incr_get _ _ hi]; have := h0 i hi; split <;> omega
theorem cntB_has : ∀ (l : List Tok) (b : List Int), (∀ i, i < b.length → 0 ≤ b.getD i 0) → ∀ t ∈ l, t.n ≠ 0 → (dsSm t.far).toNat < b.length → 0 < (cntB l b).getD (dsSm t.far).toNat 0
 | x :: l, b, h0, t, ht, hn, hs => by
  simp only [cntB]
  rcases List.mem_cons.1 ht with rfl | ht
  ·rw [if_neg hn]
   have h1 := cntB_mono l (incr b (dsSm t.far)) (i := (dsSm t.far).toNat) (by rw [incr_len]; exact hs)
   rw [incr_get _ _ hs, if_pos rfl] at h1
   have := h0 _ hs; omega
  ·refine cntB_has l _ (fun i hi => ?_) t ht hn (by split; exact hs; rw [incr_len]; exact hs)
   split at hi
   ·rename_i e; rw [if_pos e]; exact h0 i hi
   ·rename_i e; rw [if_neg e]; rw [incr_len] at hi
    rw [incr_get _ _ hi]; have := h0 i hi; split <;> omega
def fA (l : List Tok) : List Int := rarF (cntA l cA0)
def fB (l : List Tok) : List Int := rarF (cntB l cB0)
theorem cA0_get (i : Nat) (h : i < 286) : 0 ≤ cA0.getD i 0 ∧ cA0.getD i 0 ≤ 1 := by
 unfold cA0
 by_cases e : i = 256
 ·subst e; rw [List.getD_eq_getElem?_getD, List.getElem?_set_self (by rw [List.length_replicate]; omega)]; decide
 ·rw [List.getD_eq_getElem?_getD, List.getElem?_set_ne (Ne.symm e), ← List.getD_eq_getElem?_getD, PkM.rep_zero]; decide
theorem cB0_get (i : Nat) (h : i < 30) : 0 ≤ cB0.getD i 0 ∧ cB0.getD i 0 ≤ 1 := by
 unfold cB0; rw [PkM.rep_zero]; decide
theorem cA0_end : cA0.getD 256 0 = 1 := by
 unfold cA0; rw [List.getD_eq_getElem?_getD, List.getElem?_set_self (by rw [List.length_replicate]; omega)]; rfl
theorem cA0_len : cA0.length = 286 := by unfold cA0; rw [List.length_set, List.length_replicate]
theorem cB0_len : cB0.length = 30 := by unfold cB0; rw [List.length_replicate]
theorem getD_ge {l : List Int} {i : Nat} (h : l.length ≤ i) : l.getD i 0 = 0 := by simp [List.getD_eq_getElem?_getD, h]
theorem cA_all {l : List Tok} (hl : l.length ≤ 4194304) (i : Nat) : 0 ≤ (cntA l cA0).getD i 0 ∧ (cntA l cA0).getD i 0 ≤ 8388608 := by
 rcases Nat.lt_or_ge i 286 with h | h
 ·have := cntA_bd (N := 1) l cA0 (fun j hj => cA0_get j (by rw [cA0_len] at hj; exact hj)) i (by rw [cA0_len]; exact h); omega
 ·rw [getD_ge (by rw [cntA_len, cA0_len]; exact h)]; omega
theorem cB_all {l : List Tok} (hl : l.length ≤ 4194304) (i : Nat) : 0 ≤ (cntB l cB0).getD i 0 ∧ (cntB l cB0).getD i 0 ≤ 8388608 := by
 rcases Nat.lt_or_ge i 30 with h | h
 ·have := cntB_bd (N := 1) l cB0 (fun j hj => cB0_get j (by rw [cB0_len] at hj; exact hj)) i (by rw [cB0_len]; exact h); omega
 ·rw [getD_ge (by rw [cntB_len, cB0_len]; exact h)]; omega
theorem fA_len (l : List Tok) : (fA l).length = 286 := (rarF_len _).trans ((cntA_len _ _).trans cA0_len)
theorem fB_len (l : List Tok) : (fB l).length = 30 := (rarF_len _).trans ((cntB_len _ _).trans cB0_len)
end Go.DefP
namespace Go.DefP
open Go.BitP Go.HuffP Go.InfP
def chk : Nat → List Int → List (List Int)
 | 0, Z => [Z]
 | f + 1, Z => if Z.length ≤ 65535 then [Z] else Z.take 65535 :: chk f (Z.drop 65535)
theorem chk_cons : ∀ (f : Nat) (Z : List Int), ∃ X L, chk f Z = X :: L
 | 0, Z => ⟨Z, [], rfl⟩
 | f + 1, Z => by
  unfold chk
  split
  ·exact ⟨_, _, rfl⟩
  ·exact ⟨_, _, rfl⟩
theorem chk_last {Z : List Int} (h : Z.length ≤ 65535) : ∀ f, chk f Z = [Z]
 | 0 => rfl
 | f + 1 => if_pos h
theorem chk_more {Z : List Int} (h : 65535 < Z.length) (f : Nat) : blks (chk (f + 1) Z) = blkB 0 (Z.take 65535) ++ blks (chk f (Z.drop 65535)) := by
 have h0 : chk (f + 1) Z = Z.take 65535 :: chk f (Z.drop 65535) := if_neg (by omega)
 rw [h0]
 obtain ⟨X, L, e⟩ := chk_cons f (Z.drop 65535)
 rw [e]; rfl
theorem chk_flat : ∀ (f : Nat) (Z : List Int), (chk f Z).flatten = Z
 | 0, Z => by simp [chk]
 | f + 1, Z => by
  unfold chk
  split
  ·simp
  ·rw [List.flatten_cons, chk_flat f, List.take_append_drop]
theorem chk_ok : ∀ (f : Nat) (Z : List Int), Z.length ≤ 65535 * (f + 1) → ∀ X ∈ chk f Z, X.length ≤ 65535
 | 0, Z, h, X, hX => by simp only [chk, List.mem_singleton] at hX; subst hX; omega
 | f + 1, Z, h, X, hX => by
  unfold chk at hX
  split at hX
  ·rw [List.mem_singleton.1 hX]; assumption
  ·rcases List.mem_cons.1 hX with rfl | hX
   ·rw [List.length_take]; omega
   ·exact chk_ok f _ (by rw [List.length_drop]; omega) X hX
theorem chk_len : ∀ (f : Nat) (Z : List Int), Z.length ≤ 65535 * (f + 1) → (blks (chk f Z)).length ≤ Z.length + 5 * (Z.length / 65535 + 1)
 | 0, Z, h => by show (blkB 1 Z).length ≤ _; rw [blkB_len]; omega
 | f + 1, Z, h => by
  rcases Nat.lt_or_ge 65535 Z.length with h1 | h1
  ·have ih := chk_len f (Z.drop 65535) (by rw [List.length_drop]; omega)
   rw [chk_more h1, List.length_append, blkB_len, List.length_take]
   rw [List.length_drop] at ih
   omega
  ·rw [chk_last h1]; show (blkB 1 Z).length ≤ _; rw [blkB_len]; omega
theorem chk_just : ∀ (f : Nat) (Z : List Int), Z.length ≤ 65535 * (f + 1) → (blks (chk f Z)).length = Z.length + 5 * ((Z.length - 1) / 65535 + 1)
 | 0, Z, h => by show (blkB 1 Z).length = _; rw [blkB_len]; omega
 | f + 1, Z, h => by
  rcases Nat.lt_or_ge 65535 Z.length with h1 | h1
  ·have ih := chk_just f (Z.drop 65535) (by rw [List.length_drop]; omega)
   rw [chk_more h1, List.length_append, blkB_len, List.length_take]
   rw [List.length_drop] at ih
   omega
  ·rw [chk_last h1]; show (blkB 1 Z).length = _; rw [blkB_len]; omega
def stF (B : List Int) : List Int := blks (chk 64 B)
theorem stF_eq (B : List Int) : [] ++ blks (chk 64 B) = stF B := rfl
theorem stF_last {O Z B : List Int} {f : Nat} (h : O ++ blks (chk f Z) = stF B) (hZ : Z.length ≤ 65535) : O ++ [1, (Z.length : Int) % 256, (Z.length : Int) / 256, 255 - (Z.length : Int) % 256, 255 - (Z.length : Int) / 256] ++ Z = stF B := by
 rw [← h, chk_last hZ, List.append_assoc]; rfl
theorem stF_more {O Z B : List Int} {f : Nat} (h : O ++ blks (chk (f + 1) Z) = stF B) (hZ : 65535 < Z.length) : O ++ [0, (65535 : Int) % 256, (65535 : Int) / 256, 255 - (65535 : Int) % 256, 255 - (65535 : Int) / 256] ++ Z.take 65535 ++ blks (chk f (Z.drop 65535)) = stF B := by
 rw [← h, chk_more hZ]
 have : (Z.take 65535).length = 65535 := by rw [List.length_take]; omega
 unfold blkB
 rw [this]
 simp only [List.append_assoc]
 rfl
theorem stF_len {B : List Int} (h : B.length ≤ 4194304) : (stF B).length = B.length + 5 * ((B.length - 1) / 65535 + 1) := chk_just 64 B (by omega)
theorem stF_res {B t : List Int} (h : B.length ≤ 4194304) (hB : Byt B) (ht : Byt t) : Res (stF B ++ t) B.length (B, ((stF B).length : Int), 0) ∧ ∀ mo : Int, 0 ≤ mo → mo < B.length → Res (stF B ++ t) mo ([], 0, 6) := by
 obtain ⟨X, L, e⟩ := chk_cons 64 B
 have h1 := blks_res (L := chk 64 B) (by rw [e]; simp) (fun X hX => ⟨chk_ok 64 B (by omega) X hX, fun x hx => hB x (by
  have := chk_flat 64 B
  rw [← this]; exact List.mem_flatten.2 ⟨X, hX, hx⟩)⟩) ht
 rw [chk_flat] at h1
 exact h1
end Go.DefP
namespace Go.PkM
open Go.HuffP
theorem ss_self (l : List Pk) : SS l (srtP l) := ⟨srtP_srt l, fun c => srtP_filt c l⟩
theorem good_lenF {fr : List Int} {most : Nat} (hm : 1 ≤ most) (hm2 : most ≤ 15) (hL : fr.length ≤ 320) (hn : (lvs fr fr.length).length ≤ 2 ^ most) : GoodL fr most (lenF fr most) := by
  match hl : lvs fr fr.length with
  | [] =>
    have h := good0X (most := most) hL (by rw [hl]; rfl)
    rw [← h.det]; exact h.toGoodL
  | [x] =>
    obtain ⟨w, s⟩ := x
    obtain ⟨i, h1, h2, h3⟩ := lvs_mem.1 (show (w, s) ∈ lvs fr fr.length by rw [hl]; simp)
    have hs : s = [(i : Int)] := congrArg Prod.snd h3
    subst hs
    have h := (good1X (most := most) hm hL hl).2
    rw [← h.det]; exact h.toGoodL
  | x :: y :: l =>
    have hss := ss_self (lvs fr fr.length)
    have hlen : (srtP (lvs fr fr.length)).length = (lvs fr fr.length).length := (ss_perm hss).length_eq
    have h := goodLX hss (most := most) hm hm2 hL (by rw [hlen, hl]; simp) (by rw [hlen]; exact hn)
    rw [← h.det]; exact h.toGoodL
end Go.PkM
namespace Go.DefP
open Go.BitP Go.HuffP Go.InfP
def nB (bs : List Int) (a : Nat) : Nat → Int
  | 0 => 0
  | n + 1 => nB bs a n + bs.getD (a + n) 0 * 2 ^ n
def byB (bs : List Int) : List Int := (List.range ((bs.length + 7) / 8)).map fun j => nB bs (8 * j) 8
theorem byB_len (bs : List Int) : (byB bs).length = (bs.length + 7) / 8 := by simp [byB]
theorem pk_byB {bs out : List Int} {fr : Nat} (h : Pk bs out fr) (h8 : fr < 8) : out = byB bs := by
  have hl := h.len
  have hn : (bs.length + 7) / 8 = out.length := by omega
  have hb : ∀ i, bitL out i = bs.getD i 0 := fun i => by
    rcases Nat.lt_or_ge i bs.length with h1 | h1
    · exact h.get i h1
    · rw [h.zero i h1, getD_ge h1]
  have hnum : ∀ a n, numL out a n = nB bs a n := by
    intro a n
    induction n with
    | zero => rfl
    | succ n ih =>
      show numL out a n + bitL out (a + n) * 2 ^ n = nB bs a n + bs.getD (a + n) 0 * 2 ^ n
      rw [ih, hb]
  unfold byB
  rw [hn]
  refine List.ext_getElem (by simp) fun j h1 h2 => ?_
  rw [List.getElem_map, List.getElem_range, ← hnum, numL_8 (h.byt.get j)]
  simp [List.getD_eq_getElem?_getD, h1]
def fxB (l : List Tok) : List Int := lowB 1 1 ++ lowB 1 2 ++ (toksB fixL fixD l ++ wb fixL 256)
def fxS (l : List Tok) : List Int := byB (fxB l)
def dA (l : List Tok) : List Int := PkM.lenF (fA l) 15
def dB (l : List Tok) : List Int := PkM.lenF (fB l) 15
def cntC : List Int → List Int → List Int
  | [], f => f
  | n :: l, f => cntC l (incr f n)
theorem cntC_app (n : Int) : ∀ (l f : List Int), cntC (l ++ [n]) f = incr (cntC l f) n
  | [], f => rfl
  | x :: l, f => cntC_app n l _
theorem cntC_len : ∀ (l f : List Int), (cntC l f).length = f.length
  | [], f => rfl
  | t :: l, a => (cntC_len l _).trans (incr_len _ _)
theorem cntC_bd {N : Int} : ∀ (l a : List Int), (∀ i, i < a.length → 0 ≤ a.getD i 0 ∧ a.getD i 0 ≤ N) → ∀ i, i < a.length → 0 ≤ (cntC l a).getD i 0 ∧ (cntC l a).getD i 0 ≤ N + l.length
  | [], a, h, i, hi => by have := h i hi; simp only [cntC, List.length_nil]; omega
  | t :: l, a, h, i, hi => by
    have := cntC_bd (N := N + 1) l (incr a t) (fun j hj => by
      rw [incr_len] at hj
      have := h j hj
      rw [incr_get _ _ hj]; split <;> omega) i (by rw [incr_len]; exact hi)
    simp only [cntC, List.length_cons]; omega
theorem cntC_mono : ∀ (l a : List Int) {i : Nat}, i < a.length → a.getD i 0 ≤ (cntC l a).getD i 0
  | [], a, i, hi => Int.le_refl _
  | t :: l, a, i, hi => by
    have h1 := cntC_mono l (incr a t) (i := i) (by rw [incr_len]; exact hi)
    rw [incr_get _ _ hi] at h1
    simp only [cntC]
    split at h1 <;> omega
theorem cntC_has : ∀ (l a : List Int), (∀ i, i < a.length → 0 ≤ a.getD i 0) → ∀ t ∈ l, t.toNat < a.length → 0 < (cntC l a).getD t.toNat 0
  | x :: l, a, h0, t, ht, hs => by
    simp only [cntC]
    rcases List.mem_cons.1 ht with rfl | ht
    · have h1 := cntC_mono l (incr a t) (i := t.toNat) (by rw [incr_len]; exact hs)
      rw [incr_get _ _ hs, if_pos rfl] at h1
      have := h0 _ hs; omega
    · refine cntC_has l (incr a x) (fun i hi => ?_) t ht (by rw [incr_len]; exact hs)
      rw [incr_len] at hi
      rw [incr_get _ _ hi]; have := h0 i hi; split <;> omega
theorem cntC_next {l f : List Int} {k : Nat} (h : k < l.length) : incr (cntC (l.take k) f) l[k] = cntC (l.take (k + 1)) f := by
  rw [List.take_add_one, List.getElem?_eq_getElem h]
  exact (cntC_app _ _ _).symm
def dAll (l : List Tok) : List Int := dA l ++ dB l
def dC0 : List Int := List.replicate 19 0
def dFr (l : List Tok) : List Int := cntC (dAll l) dC0
def dF (l : List Tok) : List Int := PkM.lenF (dFr l) 7
def ordB (f : List Int) (k : Nat) : List Int := (ordr.take k).flatMap fun i => lowB (f.getD i.toNat 0) 3
def dH0 : List Int := lowB 1 1 ++ lowB 2 2 ++ lowB 29 5 ++ lowB 29 5 ++ lowB 15 4
def dyB (l : List Tok) : List Int := dH0 ++ ordB (dF l) 19 ++ HuffP.bits (dF l) (dAll l) ++ (toksB (dA l) (dB l) l ++ wb (dA l) 256)
def dyS (l : List Tok) : List Int := byB (dyB l)
theorem ordB_next (f : List Int) {k : Nat} (h : k < 19) : ordB f k ++ lowB (f.getD (ordr.getD k 0).toNat 0) 3 = ordB f (k + 1) := by
  unfold ordB
  have hl : k < ordr.length := h
  rw [List.take_add_one, List.getElem?_eq_getElem hl, List.flatMap_append]
  simp [List.getD_eq_getElem?_getD, hl]
theorem ordB_len (f : List Int) : ∀ k, k ≤ 19 → (ordB f k).length = 3 * k
  | 0, _ => rfl
  | k + 1, h => by rw [← ordB_next f (by omega), List.length_append, ordB_len f k (by omega), lowB_len]; omega
theorem bitsF_next {f l : List Int} {k : Nat} (h : k < l.length) : HuffP.bits f (l.take k) ++ wb f l[k] = HuffP.bits f (l.take (k + 1)) := by
  rw [← bits_snoc, List.take_add_one, List.getElem?_eq_getElem h]; rfl
theorem gdA {l : List Tok} (hl : l.length ≤ 4194304) : PkM.GoodL (fA l) 15 (dA l) :=
  PkM.good_lenF (by omega) (by omega) (by rw [fA_len]; omega) (by have := PkM.lvs_len (fA l) (fA l).length; rw [fA_len] at *; have e : 2 ^ 15 = 32768 := by decide
                                                                  omega)
theorem gdB {l : List Tok} (hl : l.length ≤ 4194304) : PkM.GoodL (fB l) 15 (dB l) :=
  PkM.good_lenF (by omega) (by omega) (by rw [fB_len]; omega) (by have := PkM.lvs_len (fB l) (fB l).length; rw [fB_len] at *; have e : 2 ^ 15 = 32768 := by decide
                                                                  omega)
theorem dFr_len (l : List Tok) : (dFr l).length = 19 := (cntC_len _ _).trans (by unfold dC0; rw [List.length_replicate])
theorem gdF (l : List Tok) : PkM.GoodL (dFr l) 7 (dF l) :=
  PkM.good_lenF (by omega) (by omega) (by rw [dFr_len]; omega) (by have := PkM.lvs_len (dFr l) (dFr l).length; rw [dFr_len] at *; have e : 2 ^ 7 = 128 := by decide
                                                                   omega)
theorem dA_len {l : List Tok} (hl : l.length ≤ 4194304) : (dA l).length = 286 := (gdA hl).len.trans (fA_len l)
theorem dB_len {l : List Tok} (hl : l.length ≤ 4194304) : (dB l).length = 30 := (gdB hl).len.trans (fB_len l)
theorem dF_len (l : List Tok) : (dF l).length = 19 := (gdF l).len.trans (dFr_len l)
theorem dAll_len {l : List Tok} (hl : l.length ≤ 4194304) : (dAll l).length = 316 := by unfold dAll; rw [List.length_append, dA_len hl, dB_len hl]
theorem fA_ok {l : List Tok} (hl : l.length ≤ 4194304) : ∀ i, i < (fA l).length → 0 ≤ (fA l).getD i 0 ∧ (fA l).getD i 0 ≤ 1048576 := fun i hi => rarF_ok (cA_all hl) (by rw [← rarF_len]; exact hi)
theorem fB_ok {l : List Tok} (hl : l.length ≤ 4194304) : ∀ i, i < (fB l).length → 0 ≤ (fB l).getD i 0 ∧ (fB l).getD i 0 ≤ 1048576 := fun i hi => rarF_ok (cB_all hl) (by rw [← rarF_len]; exact hi)
theorem dC0_get : ∀ i, i < dC0.length → 0 ≤ dC0.getD i 0 ∧ dC0.getD i 0 ≤ 0 := fun i _ => by unfold dC0; rw [PkM.rep_zero]; decide
theorem dFr_all {l : List Tok} {k : Nat} (hl : l.length ≤ 4194304) (i : Nat) : 0 ≤ (cntC ((dAll l).take k) dC0).getD i 0 ∧ (cntC ((dAll l).take k) dC0).getD i 0 ≤ 316 := by
  rcases Nat.lt_or_ge i dC0.length with h | h
  · have := cntC_bd (N := 0) ((dAll l).take k) dC0 dC0_get i h
    rw [List.length_take, dAll_len hl] at this; omega
  · rw [getD_ge (by rw [cntC_len]; exact h)]; omega
theorem dFr_ok {l : List Tok} (hl : l.length ≤ 4194304) : ∀ i, i < (dFr l).length → 0 ≤ (dFr l).getD i 0 ∧ (dFr l).getD i 0 ≤ 1048576 := fun i hi => by
  have := dFr_all (l := l) (k := 316) hl i
  rw [List.take_of_length_le (by rw [dAll_len hl]; omega)] at this
  unfold dFr; omega
theorem good_has {fr o : List Int} {m : Nat} (h : PkM.GoodL fr m o) {s : Int} (h0 : 0 ≤ s) (h1 : s < fr.length) (hp : 0 < fr.getD s.toNat 0) : s < o.length ∧ lkB o s = true := by
  have hs : s < o.length := by rw [h.len]; exact h1
  have h2 := (h.pos s.toNat (by omega) hp).1
  rcases has_cases (newE_vl h.code).1 h0 with ⟨a, _⟩ | ⟨_, _, b⟩ | ⟨_, a, _⟩
  · omega
  · exact ⟨hs, b⟩
  · omega
theorem symA_in {t : Tok} (ht : TokOk t) : 0 ≤ symA t ∧ symA t < 286 := by
  unfold symA
  rcases ht.or_ with ⟨h1, h2, h3, h4⟩ | ⟨h0, h1, h2, h3, h4⟩
  · rw [if_pos h1]; omega
  · rw [if_neg (by omega)]; have := ln_ok ⟨h1, h2⟩; omega
theorem dFits {l : List Tok} (hok : ∀ t ∈ l, TokOk t) (hl : l.length ≤ 4194304) : Fits (dA l) (dB l) l := by
  have hA : ∀ t ∈ l, symA t < (dA l).length ∧ lkB (dA l) (symA t) = true := fun t ht => by
    have hs := symA_in (hok t ht)
    refine good_has (gdA hl) hs.1 (by rw [fA_len]; exact hs.2) ?_
    have hp := cntA_has l cA0 (fun i hi => (cA0_get i (by rw [cA0_len] at hi; exact hi)).1) t ht (by rw [cA0_len]; omega)
    exact (rarF_pos (by rw [cntA_len, cA0_len]; omega)).2 hp
  refine ⟨hok, fun t ht h0 => ?_, fun t ht h0 => ?_, ?_⟩
  · have := hA t ht; unfold symA at this; rw [if_pos h0] at this; exact this
  · have h1 := hA t ht
    unfold symA at h1; rw [if_neg h0] at h1
    have hd : 0 ≤ dsSm t.far ∧ dsSm t.far < 30 := by
      rcases (hok t ht).or_ with ⟨h1, h2, h3, h4⟩ | ⟨h0, h1, h2, h3, h4⟩
      · exact absurd h1 h0
      · have := ds_ok ⟨h3, h4⟩; omega
    have hp := cntB_has l cB0 (fun i hi => (cB0_get i (by rw [cB0_len] at hi; exact hi)).1) t ht h0 (by rw [cB0_len]; omega)
    have h2 := good_has (gdB hl) hd.1 (by rw [fB_len]; exact hd.2) ((rarF_pos (by rw [cntB_len, cB0_len]; omega)).2 hp)
    exact ⟨h1.1, h1.2, h2⟩
  · refine good_has (gdA hl) (by decide) (by rw [fA_len]; decide) ?_
    have h1 := cntA_mono l cA0 (i := 256) (by rw [cA0_len]; omega)
    rw [cA0_end] at h1
    exact (rarF_pos (by rw [cntA_len, cA0_len]; omega)).2 (by show 0 < (cntA l cA0).getD 256 0; omega)
theorem fixD_len : fixD.length = 32 := by unfold fixD; rw [List.length_replicate]
theorem fFits {l : List Tok} (hok : ∀ t ∈ l, TokOk t) : Fits fixL fixD l := by
  refine ⟨hok, fun t ht h0 => ?_, fun t ht h0 => ?_, ?_⟩
  · rcases (hok t ht).or_ with ⟨h1, h2, h3, h4⟩ | ⟨_, h1, _⟩
    · rw [fixL_len]; exact ⟨by omega, (fx_at ⟨h3, by omega⟩).2.2⟩
    · omega
  · rcases (hok t ht).or_ with ⟨h1, _⟩ | ⟨_, h1, h2, h3, h4⟩
    · exact absurd h1 h0
    · have a := ln_ok ⟨h1, h2⟩
      have b := ds_ok ⟨h3, h4⟩
      rw [fixL_len, fixD_len]
      exact ⟨by omega, (fx_at ⟨by omega, by omega⟩).2.2, by omega, (fd_at ⟨by omega, by omega⟩).2.2⟩
  · rw [fixL_len]; exact ⟨by decide, (fx_at ⟨by decide, by decide⟩).2.2⟩
theorem dAll_in {l : List Tok} (hl : l.length ≤ 4194304) {x : Int} (hx : x ∈ dAll l) : 0 ≤ x ∧ x ≤ 15 := by
  rcases List.mem_append.1 hx with h | h
  · exact (newE_vl (gdA hl).code).1.2 x h
  · exact (newE_vl (gdB hl).code).1.2 x h
theorem dF_has {l : List Tok} (hl : l.length ≤ 4194304) {x : Int} (hx : x ∈ dAll l) : x < (dF l).length ∧ lkB (dF l) x = true := by
  have h := dAll_in hl hx
  refine good_has (gdF l) h.1 (by rw [dFr_len]; omega) ?_
  exact cntC_has (dAll l) dC0 (fun i hi => (dC0_get i hi).1) x hx (by unfold dC0; rw [List.length_replicate]; omega)
theorem dF_7 {l : List Tok} (i : Nat) : 0 ≤ (dF l).getD i 0 ∧ (dF l).getD i 0 ≤ 7 := by
  rcases Nat.lt_or_ge i 19 with h | h
  · by_cases hp : 0 < (dFr l).getD i 0
    · have := (gdF l).pos i (by rw [dFr_len]; exact h) hp; omega
    · have := (gdF l).zero i (by rw [dFr_len]; exact h) hp; omega
  · rw [getD_ge (by rw [dF_len]; exact h)]; decide
end Go.DefP
namespace Go.DefP
open Go.BitP Go.HuffP Go.InfP
def tri {α : Type} (a b c : α) : Nat → α
 | 0 => a
 | 1 => b
 | _ => c
def bi (n : Nat → Nat) : Nat → Nat
 | 0 => 0
 | k + 1 => if n (k + 1) < n (bi n k) then k + 1 else bi n k
theorem bi_le (n : Nat → Nat) : ∀ k, bi n k ≤ k
 | 0 => Nat.le_refl _
 | k + 1 => by have := bi_le n k; simp only [bi]; split <;> omega
theorem bi_min (n : Nat → Nat) : ∀ k j, j ≤ k → n (bi n k) ≤ n j
 | 0, j, h => by obtain rfl : j = 0 := (by omega); exact Nat.le_refl _
 | k + 1, j, h => by
  have ih := bi_min n k
  simp only [bi]
  split
  ·rename_i hc
   rcases Nat.lt_or_ge j (k + 1) with h1 | h1
   ·have := ih j (by omega); omega
   ·obtain rfl : j = k + 1 := by omega
    exact Nat.le_refl _
  ·rename_i hc
   rcases Nat.lt_or_ge j (k + 1) with h1 | h1
   ·exact ih j (by omega)
   ·obtain rfl : j = k + 1 := by omega
    omega
theorem bi_yes {n : Nat → Nat} {k : Nat} (h : n (k + 1) < n (bi n k)) : bi n (k + 1) = k + 1 := if_pos h
theorem bi_no {n : Nat → Nat} {k : Nat} (h : ¬ n (k + 1) < n (bi n k)) : bi n (k + 1) = bi n k := if_neg h
theorem le2 {j : Nat} (h : j ≤ 2) : j = 0 ∨ j = 1 ∨ j = 2 := by omega
def sN (B : List Int) : Nat → Nat := tri (stF B).length (fxS (toks B)).length (dyS (toks B)).length
def shF (B : List Int) : List Int := tri (stF B) (fxS (toks B)) (dyS (toks B)) (bi (sN B) 2)
theorem shF_or (B : List Int) : shF B = stF B ∨ shF B = fxS (toks B) ∨ shF B = dyS (toks B) := by
 unfold shF
 rcases le2 (bi_le (sN B) 2) with h | h | h <;> rw [h]
 ·exact .inl rfl
 ·exact .inr (.inl rfl)
 ·exact .inr (.inr rfl)
theorem shF_len (B : List Int) : (shF B).length = sN B (bi (sN B) 2) := by
 unfold shF
 rcases le2 (bi_le (sN B) 2) with h | h | h <;> rw [h] <;> rfl
theorem shF_le (B : List Int) : (shF B).length ≤ (stF B).length ∧ (shF B).length ≤ (fxS (toks B)).length := by
 rw [shF_len]
 exact ⟨bi_min (sN B) 2 0 (by omega), bi_min (sN B) 2 1 (by omega)⟩
end Go.DefP
namespace Go.DefP
open Go.BitP Go.HuffP Go.InfP
theorem fxS_len {l : List Tok} (hok : ∀ t ∈ l, TokOk t) (hl : l.length ≤ 4194304) : (fxS l).length ≤ 30000000 := by
 have h1 := toksB_len (newE_vl fixL_ok).1 (newE_vl fixD_ok).1 (l := l) hok
 have h2 := lkN_le (newE_vl fixL_ok).1 256
 unfold fxS fxB
 rw [byB_len]
 simp only [List.length_append, lowB_len, wb_len]
 omega
theorem dyS_len {l : List Tok} (hok : ∀ t ∈ l, TokOk t) (hl : l.length ≤ 4194304) : (dyS l).length ≤ 30000000 := by
 have h1 := toksB_len (newE_vl (gdA hl).code).1 (newE_vl (gdB hl).code).1 (l := l) hok
 have h2 := lkN_le (newE_vl (gdA hl).code).1 256
 have h3 := bits_len (newE_vl (gdF l).code).1 (dAll l)
 have h4 := dAll_len hl
 have h5 := ordB_len (dF l) 19 (Nat.le_refl _)
 unfold dyS dyB
 rw [byB_len]
 simp only [List.length_append, lowB_len, wb_len, dH0, h5]
 omega
theorem toks_le {B : List Int} (hB : Byt B) : (toks B).length ≤ B.length := by have := (toks_at B).len; omega
end Go.DefP
namespace Go.DefP
open Go.BitP Go.HuffP Go.InfP
theorem shF_bd {B : List Int} (hB : Byt B) (hl : B.length ≤ 4194304) : (shF B).length ≤ 30000000 := by
 have := (shF_le B).1
 rw [stF_len hl] at this
 omega
def nn0 (n : Int) : Int := if n < 0 then 0 else n
def most (n : Int) : Int := if 0 < nn0 n % 65535 then nn0 n + 5 * (nn0 n / 65535 + 1) + 5 else nn0 n + 5 * (nn0 n / 65535) + 5
theorem most_eq {n : Int} (h : 0 ≤ n) : most n = n + 5 * ((n + 65534) / 65535) + 5 := by
 unfold most
 rw [show nn0 n = n from if_neg (by omega)]
 split <;> omega
theorem shF_most {B : List Int} (hl : B.length ≤ 4194304) : ((shF B).length : Int) ≤ (B.length : Int) + 5 * (((B.length : Int) + 65534) / 65535) + 5 := by
 have := (shF_le B).1
 rw [stF_len hl] at this
 omega
end Go.DefP
namespace Go.DefP
open Go.BitP Go.HuffP Go.InfP
theorem lowB_get {x : Int} {n i : Nat} (h : i < n) : (lowB x n).getD i 0 = x / 2 ^ i % 2 := by simp [lowB, List.getD_eq_getElem?_getD, h]
theorem mod_two (x : Int) (n : Nat) : x % 2 ^ n + x / 2 ^ n % 2 * 2 ^ n = x % 2 ^ (n + 1) := by
 have hp : (0 : Int) < 2 ^ n := Int.pow_pos (by decide)
 have h1 := Int.mul_ediv_add_emod x (2 ^ n)
 have h2 := Int.emod_nonneg x (show (2 : Int) ^ n ≠ 0 by omega)
 have h3 := Int.emod_lt_of_pos x hp
 generalize x / 2 ^ n = q at *
 generalize x % 2 ^ n = r at *
 rw [Int.pow_succ]
 generalize (2 : Int) ^ n = p at *
 have hq : q = 2 * (q / 2) + q % 2 := (Int.mul_ediv_add_emod q 2).symm
 have hr : q % 2 = 0 ∨ q % 2 = 1 := by omega
 generalize q / 2 = e at *
 generalize q % 2 = b at *
 subst hq
 have hx : x = (r + b * p) + (p * 2) * e := by
  rw [← h1, Int.mul_add, show p * (2 * e) = p * 2 * e from by rw [Int.mul_assoc], Int.mul_comm b p]
  omega
 rw [hx, Int.add_mul_emod_self_left]
 symm
 refine Int.emod_eq_of_lt ?_ ?_
 ·rcases hr with rfl | rfl <;> omega
 ·rcases hr with rfl | rfl <;> omega
theorem numL_mod {o : List Int} {x : Int} {a : Nat} : ∀ n, (∀ i, i < n → bitL o (a + i) = x / 2 ^ i % 2) → numL o a n = x % 2 ^ n
 | 0, _ => by simp [numL]
 | n + 1, h => by
  rw [show numL o a (n + 1) = numL o a n + bitL o (a + n) * 2 ^ n from rfl, numL_mod n (fun i hi => h i (by omega)), h n (by omega)]
  exact mod_two x n
theorem pq_num {bs o u r : List Int} {x : Int} {n : Nat} (h : Pq bs o) (e : bs = u ++ lowB x n ++ r) (hx : 0 ≤ x ∧ x < 2 ^ n) : numL o u.length n = x ∧ u.length + n ≤ 8 * o.length := by
 obtain ⟨k1, k2⟩ := pq_at h e
 rw [lowB_len] at k1 k2
 refine ⟨?_, k2⟩
 rw [numL_mod n (fun i hi => by rw [k1 i hi, lowB_get hi])]
 exact Int.emod_eq_of_lt hx.1 hx.2
structure Rq (ls ds o : List Int) (mo : Int) (z : St) (a : Nat) (out : List Int) : Prop where
 goes : Goes o mo InfP.start z
 at_ : z.at_ = a
 out : z.out = out
 k1 : ¬ z.kind = -1
 k2 : ¬ z.kind = 0
 copies : z.copies = 0
 ended : z.ended = false
 last : z.last = true
 lits : z.lits = ls
 dist : z.dist = ds
section
variable {ls ds bs o u r out : List Int} {mo y : Int} {z : St} {t : Tok}
theorem Rq.one (h : Rq ls ds o mo z u.length out) : InfP.one o mo z = coded o mo z := one_c (by rw [h.copies]; omega) h.k1 h.k2
theorem rq_lit (hE : newE ls = 0) (h : Pq bs o) (hz : Rq ls ds o mo z u.length out) (hy : 0 ≤ y ∧ y < 256) (hb : y < ls.length ∧ lkB ls y = true) (e : bs = u ++ wb ls y ++ r) (hm : (out.length : Int) < mo) : ∃ z', Rq ls ds o mo z' (u ++ wb ls y).length (out ++ [y]) := by
 have hs := sym_wb hE hy.1 hb.1 hb.2 h e
 rw [← hz.at_, ← hz.lits] at hs
 have h1 := hz.one.trans ((cod_put hs hy.2).trans (put_yes (by show (z.out.length : Int) < mo; rw [hz.out]; exact hm)))
 exact ⟨_, ⟨hz.goes.next hz.ended h1, by rw [hz.lits], by show z.out ++ [y] = _; rw [hz.out], hz.k1, hz.k2, hz.copies, hz.ended, hz.last, hz.lits, hz.dist⟩⟩
theorem rq_cp (hE : newE ls = 0) (hD : newE ds = 0) (h : Pq bs o) (hz : Rq ls ds o mo z u.length out) (h0 : ¬ t.n = 0) (ht : TokOk t) (hb : lnSm t.n < ls.length ∧ lkB ls (lnSm t.n) = true ∧ dsSm t.far < ds.length ∧ lkB ds (dsSm t.far) = true) (e : bs = u ++ tokB ls ds t ++ r) (hd : t.far ≤ out.length) (hm : (out.length : Int) + t.n ≤ mo) : ∃ z', Rq ls ds o mo z' (u ++ tokB ls ds t).length (cpy t.far.toNat t.n.toNat out) := by
 obtain ⟨q1, q2, q3, q4⟩ : 3 ≤ t.n ∧ t.n ≤ 258 ∧ 1 ≤ t.far ∧ t.far ≤ 32768 := by
  rcases ht.or_ with ⟨a, _⟩ | ⟨_, a, b, c, d⟩
  ·exact absurd a h0
  ·exact ⟨a, b, c, d⟩
 obtain ⟨l1, l2, l3, l4, l5, l6, l7⟩ := ln_ok ⟨q1, q2⟩
 obtain ⟨d1, d2, d3, d4, d5, d6, d7⟩ := ds_ok ⟨q3, q4⟩
 rw [tokB_cp h0] at e ⊢
 generalize hA : wb ls (lnSm t.n) = A at *
 generalize hL : lowB (lnRe t.n) (lnMo t.n) = Lw at *
 generalize hDw : wb ds (dsSm t.far) = Dw at *
 generalize hR : lowB (dsRe t.far) (dsMo t.far) = Rw at *
 have hs := sym_wb (u := u) (r := Lw ++ Dw ++ Rw ++ r) hE (s := lnSm t.n) (by omega) hb.1 hb.2.1 h (by rw [e, hA]; simp only [List.append_assoc])
 rw [hA] at hs
 have hn1 := pq_num (u := u ++ A) (r := Dw ++ Rw ++ r) (x := lnRe t.n) (n := lnMo t.n) h (by rw [e, hL]; simp only [List.append_assoc]) ⟨l5, l6⟩
 have hs2 := sym_wb (u := u ++ A ++ Lw) (r := Rw ++ r) hD (s := dsSm t.far) d1 hb.2.2.1 hb.2.2.2 h (by rw [e, hDw]; simp only [List.append_assoc])
 rw [hDw] at hs2
 have hn2 := pq_num (u := u ++ A ++ Lw ++ Dw) (r := r) (x := dsRe t.far) (n := dsMo t.far) h (by rw [e, hR]; simp only [List.append_assoc]) ⟨d5, d6⟩
 have hLl : Lw.length = lnMo t.n := by rw [← hL, lowB_len]
 have hRl : Rw.length = dsMo t.far := by rw [← hR, lowB_len]
 have g1 : lenE o (lnSm t.n - 257) (u ++ A).length = .ok (t.n, (u ++ A ++ Lw).length) := by
  unfold lenE
  rw [if_neg (by omega), l3, if_neg (by omega), hn1.1, l4, List.length_append (as := u ++ A), hLl]
 have g2 : awayE o z.dist (u ++ A ++ Lw).length = .ok (t.far, (u ++ (A ++ Lw ++ Dw ++ Rw)).length) := by
  unfold awayE
  rw [hz.dist, hs2]
  simp only
  rw [if_neg (by omega), d3, if_neg (by omega), hn2.1, d4]
  simp only [List.length_append, hRl, Nat.add_assoc]
 rw [← hz.at_, ← hz.lits] at hs
 have h4 := hz.one.trans (cod_y hs (by omega) g1 g2 (by rw [hz.out]; exact hd))
 obtain ⟨z', g, a1, a2, a3, a4, a5, a6, a7, a8⟩ := go_copies (o := o) (mo := mo) t.n.toNat (z := { z with at_ := (u ++ (A ++ Lw ++ Dw ++ Rw)).length, copies := t.n.toNat, far := t.far.toNat }) rfl hz.ended (by show (z.out.length : Int) + (t.n.toNat : Nat) ≤ mo; rw [hz.out]; omega)
 exact ⟨z', (hz.goes.next hz.ended h4).trans g, a1, by rw [a2]; show cpy t.far.toNat t.n.toNat z.out = _; rw [hz.out], by rw [a3]; exact hz.k1, by rw [a3]; exact hz.k2, a4, a5, a6.trans hz.last, a7.trans hz.lits, a8.trans hz.dist⟩
theorem rq_end (hE : newE ls = 0) (h : Pq bs o) (hz : Rq ls ds o mo z u.length out) (hb : (256 : Int) < ls.length ∧ lkB ls 256 = true) (e : bs = u ++ wb ls 256 ++ r) : Runs o mo InfP.start (.ok (out, ((u ++ wb ls 256).length + 7) / 8)) := by
 have hs := sym_wb hE (s := 256) (by omega) hb.1 hb.2 h e
 rw [← hz.at_, ← hz.lits] at hs
 have h1 := hz.one.trans (cod_end hs rfl)
 have := hz.goes.next hz.ended h1 _ (.done hz.last)
 rw [show ({ z with at_ := (u ++ wb z.lits 256).length, kind := -1, ended := z.last } : St).out = out from hz.out] at this
 rw [← hz.lits]
 exact this
theorem rq_toks {B : List Int} (hB : Byt B) (hE : newE ls = 0) (hD : newE ds = 0) (h : Pq bs o) (hm : (B.length : Int) ≤ mo) {a : Nat} {l : List Tok} (hT : TokAt B a l) : ∀ {u : List Int} {z : St}, Rq ls ds o mo z u.length (B.take a) → Fits ls ds l → bs = u ++ toksB ls ds l ++ r → ∃ z', Rq ls ds o mo z' (u ++ toksB ls ds l).length B := by
 induction hT with
 | nil =>
  intro u z hz _ _
  rw [List.take_length] at hz
  exact ⟨z, by simpa [toksB] using hz⟩
 | @lit a l hl hT ih =>
  intro u z hz hF e
  have hbc : toksB ls ds (⟨B.getD a 0, 0, 0⟩ :: l) = wb ls (B.getD a 0) ++ toksB ls ds l := by simp [toksB, tokB]
  have hby := hB.get a
  have hfl := hF.lit _ (List.mem_cons_self ..) rfl
  obtain ⟨z1, h1⟩ := rq_lit (r := toksB ls ds l ++ r) hE h hz hby hfl (by rw [e, hbc]; simp only [List.append_assoc]) (by rw [List.length_take]; omega)
  have e1 : B.take a ++ [B.getD a 0] = B.take (a + 1) := by
   rw [List.take_add_one]
   simp [List.getD_eq_getElem?_getD, hl]
  rw [e1] at h1
  obtain ⟨z2, h2⟩ := ih h1 ⟨fun t ht => hF.ok t (List.mem_cons_of_mem _ ht), fun t ht => hF.lit t (List.mem_cons_of_mem _ ht), fun t ht => hF.cp t (List.mem_cons_of_mem _ ht), hF.end_⟩ (by rw [e, hbc]; simp only [List.append_assoc])
  refine ⟨z2, ?_⟩
  rw [hbc, ← List.append_assoc]
  exact h2
 | @cp a n d l c1 c2 c3 c4 c5 c6 c7 hT ih =>
  intro u z hz hF e
  have hbc : toksB ls ds (⟨0, (n : Int), (d : Int)⟩ :: l) = tokB ls ds ⟨0, n, d⟩ ++ toksB ls ds l := by simp [toksB]
  have hn0 : ¬ ((n : Int) = 0) := by omega
  have hlt : (B.take a).length = a := by rw [List.length_take]; omega
  obtain ⟨z1, h1⟩ := rq_cp (t := ⟨0, n, d⟩) (r := toksB ls ds l ++ r) hE hD h hz hn0 (hF.ok _ (List.mem_cons_self ..)) (hF.cp _ (List.mem_cons_self ..) hn0) (by rw [e, hbc]; simp only [List.append_assoc]) (by rw [hlt]; show (d : Int) ≤ a; omega) (by rw [hlt]; show (a : Int) + (n : Int) ≤ mo; omega)
  rw [show cpy (d : Int).toNat (n : Int).toNat (B.take a) = B.take (a + n) from cpy_take n a c6 c3 c5 c7] at h1
  obtain ⟨z2, h2⟩ := ih h1 ⟨fun t ht => hF.ok t (List.mem_cons_of_mem _ ht), fun t ht => hF.lit t (List.mem_cons_of_mem _ ht), fun t ht => hF.cp t (List.mem_cons_of_mem _ ht), hF.end_⟩ (by rw [e, hbc]; simp only [List.append_assoc])
  refine ⟨z2, ?_⟩
  rw [hbc, ← List.append_assoc]
  exact h2
end
theorem po_all {bs : List Int} (h : B01 bs) : ∀ i, i ≤ bs.length → ∃ o, Po bs i o
 | 0, _ => ⟨_, Po.zero_ bs⟩
 | i + 1, hi => by
  obtain ⟨o, ho⟩ := po_all h i (by omega)
  exact ⟨_, ho.step (by omega) (h.get i)⟩
theorem byB_pk {bs : List Int} (h : B01 bs) : ∃ fr, fr < 8 ∧ Pk bs (byB bs) fr := by
 obtain ⟨o, ho⟩ := po_all h bs.length (Nat.le_refl _)
 have hl := ho.len
 have hp : Pk bs o (8 * o.length - bs.length) := ⟨by omega, by omega, ho.byt, ho.get, ho.zero⟩
 have := pk_byB hp (by omega)
 rw [← this]
 exact ⟨_, by omega, hp⟩
theorem byB_byt {bs : List Int} (h : B01 bs) : Byt (byB bs) := by
 obtain ⟨fr, _, hp⟩ := byB_pk h
 exact hp.byt
theorem byB_pq {bs t : List Int} (h : B01 bs) (ht : Byt t) : Pq bs (byB bs ++ t) := by
 obtain ⟨fr, h8, hp⟩ := byB_pk h
 have hl := hp.len
 refine ⟨fun x hx => ?_, by rw [List.length_append]; omega, fun i hi => ?_⟩
 ·rcases List.mem_append.1 hx with hx | hx
  ·exact hp.byt x hx
  ·exact ht x hx
 ·rw [← hp.get i hi]
  unfold bitL
  rw [getD_app _ _ _ (by omega)]
theorem wb01 {ls : List Int} {s : Int} : B01 (wb ls s) := wb_01
theorem bits01 (f : List Int) (l : List Int) : B01 (HuffP.bits f l) := fun x hx => by
 obtain ⟨y, _, h⟩ := List.mem_flatMap.1 hx
 exact wb01 x h
theorem toksB_01 (ls ds : List Int) (l : List Tok) : B01 (toksB ls ds l) := fun x hx => by
 obtain ⟨t, _, h⟩ := List.mem_flatMap.1 hx
 unfold tokB at h
 split at h
 ·exact wb01 x h
 ·rcases List.mem_append.1 h with h | h
  ·rcases List.mem_append.1 h with h | h
   ·rcases List.mem_append.1 h with h | h
    ·exact wb01 x h
    ·exact low_01 _ _ x h
   ·exact wb01 x h
  ·exact low_01 _ _ x h
theorem ordB_01 (f : List Int) (k : Nat) : B01 (ordB f k) := fun x hx => by
 obtain ⟨t, _, h⟩ := List.mem_flatMap.1 hx
 exact low_01 _ _ x h
theorem fxB_01 (l : List Tok) : B01 (fxB l) := ((low_01 _ _).app (low_01 _ _)).app ((toksB_01 _ _ l).app wb01)
theorem dyB_01 (l : List Tok) : B01 (dyB l) := ((((((((low_01 _ _).app (low_01 _ _)).app (low_01 _ _)).app (low_01 _ _)).app (low_01 _ _)).app (ordB_01 _ _))).app (bits01 _ _)).app ((toksB_01 _ _ l).app wb01)
theorem res_of {bs o B : List Int} {mo : Int} {l : List Tok} {ls ds u : List Int} {z : St} (hmo : (B.length : Int) ≤ mo) (hB : Byt B) (hT : TokAt B 0 l) (hE : newE ls = 0) (hD : newE ds = 0) (hF : Fits ls ds l) (h : Pq bs o) (hz : Rq ls ds o mo z u.length []) (e : bs = u ++ (toksB ls ds l ++ wb ls 256)) : Res o mo (B, (((bs.length + 7) / 8 : Nat) : Int), 0) := by
 obtain ⟨z1, h1⟩ := rq_toks (r := wb ls 256) hB hE hD h hmo hT (u := u) (z := z) hz hF (by rw [e]; simp only [List.append_assoc])
 have h2 := rq_end (r := []) hE h h1 hF.end_ (by rw [e]; simp only [List.append_assoc, List.append_nil])
 refine .inr ⟨by omega, _, h2, ?_⟩
 rw [show (u ++ toksB ls ds l ++ wb ls 256).length = bs.length from by rw [e, List.append_assoc]]
 rfl
theorem fx_res {B t : List Int} {mo : Int} (hmo : (B.length : Int) ≤ mo) (hB : Byt B) (ht : Byt t) : Res (fxS (toks B) ++ t) mo (B, ((fxS (toks B)).length : Int), 0) := by
 have hT := toks_at B
 have hq := byB_pq (fxB_01 (toks B)) ht
 obtain ⟨z, hz⟩ := rd_begin (mo := mo) (r := toksB fixL fixD (toks B) ++ wb fixL 256) hq (by rfl)
 have hz2 : Rq fixL fixD (byB (fxB (toks B)) ++ t) mo z (lowB 3 3).length [] := ⟨hz.goes, hz.at_, hz.out, by rw [hz.kind]; decide, by rw [hz.kind]; decide, hz.copies, hz.ended, hz.last, hz.lits, hz.dist⟩
 have := res_of hmo hB hT fixL_ok fixD_ok (fFits (hT.ok hB)) hq hz2 rfl
 rw [← byB_len] at this
 exact this
end Go.DefP

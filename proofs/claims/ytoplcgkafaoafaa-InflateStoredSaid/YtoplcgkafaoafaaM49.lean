/- Steps of the proof: the walks of the functions that the statement reaches; printed by a program of ours. -/
import Derived.Test.YtoplcgkafaoafaaM39
/-
  With more room, with less; streams that go on alike, or are cut.
-/
namespace Go.InfP
set_option linter.unusedVariables false
open Go.BitP Go.HuffP
set_option linter.unusedVariables false
set_option linter.unusedSimpArgs false
/-! ### Room -/
section
variable {B : List Int} {mo mo' y : Int} {s s2 : St}
theorem put_mo (h : put_ mo s y = .ok s2) : ((s2.out.length : Int) ≤ mo' → put_ mo' s y = .ok s2) ∧ (mo' < s2.out.length → put_ mo' s y = .error 6) := by
  obtain ⟨k, rfl⟩ := put_ok h
  have hl : ({ s with out := s.out ++ [y] } : St).out.length = s.out.length + 1 := by simp
  rw [hl]
  exact ⟨fun h => put_yes (by omega), fun h => put_no (by omega)⟩
theorem coded_mo (h : coded B mo s = .ok s2) (hs : (s.out.length : Int) ≤ mo') : ((s2.out.length : Int) ≤ mo' → coded B mo' s = .ok s2) ∧ (mo' < s2.out.length → coded B mo' s = .error 6) := by
  rcases ex_or (sym s.lits B s.at_) with ⟨e, h1⟩ | ⟨⟨y, a⟩, h1⟩
  · rw [cod_e h1] at h; cases h
  by_cases hy : y < 256
  · rw [cod_put h1 hy] at h ⊢; exact put_mo h
  by_cases hy2 : y = 256
  · rw [cod_end h1 hy2] at h ⊢; cases h; exact ⟨fun _ => rfl, fun k => by simp only at k; omega⟩
  rcases ex_or (lenE B (y - 257) a) with ⟨e, hn⟩ | ⟨⟨n, a2⟩, hn⟩
  · rw [cod_l h1 (by omega) hn] at h; cases h
  rcases ex_or (awayE B s.dist a2) with ⟨e, hf⟩ | ⟨⟨f, a3⟩, hf⟩
  · rw [cod_a h1 (by omega) hn hf] at h; cases h
  by_cases hfo : f ≤ s.out.length
  · rw [cod_y h1 (by omega) hn hf hfo] at h ⊢; cases h; exact ⟨fun _ => rfl, fun k => by simp only at k; omega⟩
  · rw [cod_n h1 (by omega) hn hf hfo] at h; cases h
theorem one_mo (h : one B mo s = .ok s2) (hs : (s.out.length : Int) ≤ mo') : ((s2.out.length : Int) ≤ mo' → one B mo' s = .ok s2) ∧ (mo' < s2.out.length → one B mo' s = .error 6) := by
  by_cases hc : 0 < s.copies
  · unfold one at h ⊢; rw [if_pos hc] at h ⊢; exact put_mo h
  by_cases hk : s.kind = -1
  · rw [one_b hc hk] at h ⊢
    refine ⟨fun _ => h, fun k => ?_⟩
    exfalso
    have : s2.out = s.out := by
      unfold begin_ at h
      split at h
      · cases h
      split at h
      · split at h
        · cases h
        split at h
        · cases h; rfl
        · cases h
      split at h
      · cases h; rfl
      split at h
      · split at h
        · cases h
        · cases h; rfl
      · cases h
    rw [this] at k; omega
  by_cases hk0 : s.kind = 0
  · by_cases hl : s.left = 0
    · rw [one_l0 hc hk hk0 hl] at h ⊢; cases h; exact ⟨fun _ => rfl, fun k => by simp only at k; omega⟩
    · by_cases hx : 8 * B.length < s.at_ + 8
      · rw [one_ls hc hk hk0 hl hx] at h; cases h
      · rw [one_lp hc hk hk0 hl (by omega)] at h ⊢; exact put_mo h
  · rw [one_c hc hk hk0] at h ⊢; exact coded_mo h hs
theorem runs_mo {o : Oc} (hB : Byt B) (h : Runs B mo s o) : Ok B mo s → ∀ x n, o = .ok (x, n) → s.out.length ≤ x.length ∧ ((x.length : Int) ≤ mo' → Runs B mo' s (.ok (x, n))) ∧ ((s.out.length : Int) ≤ mo' → mo' < x.length → Runs B mo' s (.error 6)) := by
  induction h with
  | done h => intro hok x n e; cases e; exact ⟨Nat.le_refl _, fun _ => .done h, fun h1 h2 => by omega⟩
  | step h1 h2 h3 ih =>
    intro hok x n e
    have hg := one_good hB hok h2
    obtain ⟨k1, k2, k3⟩ := ih hg.ok x n e
    have hle := hg.le
    refine ⟨by omega, fun k => .step h1 ((one_mo h2 (by omega)).1 (by omega)) (k2 k), fun q1 q2 => ?_⟩
    rename_i s' _
    by_cases hc : mo' < s'.out.length
    · exact .fail h1 ((one_mo h2 q1).2 hc)
    · exact .step h1 ((one_mo h2 q1).1 (by omega)) (k3 (by omega) q2)
  | fail _ _ => intro _ x n e; cases e
end
end Go.InfP

/-
  Stored blocks: how they are written, how they are read.
-/
namespace Go.InfP
open Go.BitP Go.HuffP
set_option linter.unusedVariables false
set_option linter.unusedSimpArgs false
section
variable {B : List Int}
theorem bitL_at (j i : Nat) (hi : i < 8) : bitL B (8 * j + i) = B.getD j 0 / 2 ^ i % 2 := by
  unfold bitL
  rw [show (8 * j + i) / 8 = j by omega, show (8 * j + i) % 8 = i by omega]
theorem numL_split (a m : Nat) : ∀ n, numL B a (m + n) = numL B a m + numL B (a + m) n * 2 ^ m
  | 0 => by simp [numL]
  | n + 1 => by
    have := numL_split a m n
    show numL B a (m + n) + bitL B (a + (m + n)) * 2 ^ (m + n) = numL B a m + (numL B (a + m) n + bitL B (a + m + n) * 2 ^ n) * 2 ^ m
    rw [this, Int.add_mul, Int.add_assoc, Nat.add_assoc a m n, Int.mul_assoc, ← Int.pow_add, Nat.add_comm n m]
theorem numL_8 {j : Nat} (hb : 0 ≤ B.getD j 0 ∧ B.getD j 0 < 256) : numL B (8 * j) 8 = B.getD j 0 := by
  simp only [numL]
  rw [show 8 * j + 0 = 8 * j + 0 from rfl, bitL_at j 0 (by omega), bitL_at j 1 (by omega), bitL_at j 2 (by omega), bitL_at j 3 (by omega), bitL_at j 4 (by omega), bitL_at j 5 (by omega), bitL_at j 6 (by omega), bitL_at j 7 (by omega)]
  generalize B.getD j 0 = b at hb ⊢
  simp only [show (2 : Int) ^ 0 = 1 from rfl, show (2 : Int) ^ 1 = 2 from rfl, show (2 : Int) ^ 2 = 4 from rfl, show (2 : Int) ^ 3 = 8 from rfl, show (2 : Int) ^ 4 = 16 from rfl, show (2 : Int) ^ 5 = 32 from rfl, show (2 : Int) ^ 6 = 64 from rfl, show (2 : Int) ^ 7 = 128 from rfl]
  omega
theorem numL_16 {j : Nat} (hb : 0 ≤ B.getD j 0 ∧ B.getD j 0 < 256) (hc : 0 ≤ B.getD (j + 1) 0 ∧ B.getD (j + 1) 0 < 256) : numL B (8 * j) 16 = B.getD j 0 + 256 * B.getD (j + 1) 0 := by
  rw [show (16 : Nat) = 8 + 8 from rfl, numL_split, numL_8 hb, show 8 * j + 8 = 8 * (j + 1) by omega, numL_8 hc]
  omega
theorem puts_all {mo : Int} (hB : Byt B) : ∀ (X : List Int) {s : St} {pos : Nat}, s.kind = 0 → s.copies = 0 → s.ended = false → s.left = X.length → s.at_ = 8 * pos → (∀ i, i < X.length → B.getD (pos + i) 0 = X.getD i 0) → pos + X.length ≤ B.length → (s.out.length : Int) + X.length ≤ mo →
    ∃ s', Goes B mo s s' ∧ s'.at_ = 8 * (pos + X.length) ∧ s'.out = s.out ++ X ∧ s'.kind = -1 ∧ s'.copies = 0 ∧ s'.ended = s.last := by
  intro X
  induction X with
  | nil =>
    intro s pos hk hc he hl ha hx hp hm
    have h1 := one_l0 (B := B) (mo := mo) (s := s) (by omega) (by omega) hk hl
    exact ⟨_, Goes.one he h1, by simpa using ha, by simp, rfl, hc, rfl⟩
  | cons x X ih =>
    intro s pos hk hc he hl ha hx hp hm
    have hx0 : B.getD pos 0 = x := by simpa using hx 0 (by simp)
    have hp2 : pos + (X.length + 1) ≤ B.length := by simpa using hp
    have hl2 : s.left = X.length + 1 := by simpa using hl
    have hm2 : (s.out.length : Int) + (X.length + 1) ≤ mo := by simpa using hm
    have h1 := one_ly (B := B) (mo := mo) (s := s) (by omega) (by omega) hk (by omega) (by omega) (by omega)
    rw [ha, numL_8 (hB.get pos), hx0] at h1
    obtain ⟨s', g, a1, a2, a3, a4, a5⟩ := ih (s := { s with at_ := 8 * pos + 8, left := s.left - 1, out := s.out ++ [x] }) (pos := pos + 1) hk hc he (by show s.left - 1 = X.length; omega) (by show 8 * pos + 8 = 8 * (pos + 1); omega) (fun i hi => by
      have := hx (i + 1) (by simp; omega)
      rw [show pos + 1 + i = pos + (i + 1) by omega, this]; simp) (by omega) (by show ((s.out ++ [x]).length : Int) + X.length ≤ mo; simp; omega)
    exact ⟨s', (Goes.one he h1).trans g, by rw [a1]; simp; omega, by rw [a2]; simp, a3, a4, a5⟩
/-- A block's head and its bytes. -/
def blkB (la : Int) (X : List Int) : List Int := [la, (X.length : Int) % 256, (X.length : Int) / 256, 255 - (X.length : Int) % 256, 255 - (X.length : Int) / 256] ++ X
theorem blkB_len (la : Int) (X : List Int) : (blkB la X).length = 5 + X.length := by simp [blkB]; omega
theorem block_all {mo : Int} (hB : Byt B) {s : St} {pos : Nat} {la : Int} {X : List Int} (hla : la = 0 ∨ la = 1) (hX : X.length ≤ 65535) (hk : s.kind = -1) (hc : s.copies = 0) (he : s.ended = false) (ha : s.at_ = 8 * pos) (hx : ∀ i, i < (blkB la X).length → B.getD (pos + i) 0 = (blkB la X).getD i 0) (hp : pos + (blkB la X).length ≤ B.length) (hm : (s.out.length : Int) + X.length ≤ mo) :
    ∃ s', Goes B mo s s' ∧ s'.at_ = 8 * (pos + (blkB la X).length) ∧ s'.out = s.out ++ X ∧ s'.kind = -1 ∧ s'.copies = 0 ∧ s'.ended = decide (la = 1) := by
  have hbl := blkB_len la X
  have b0 : B.getD pos 0 = la := by simpa [blkB] using hx 0 (by omega)
  have b1 : B.getD (pos + 1) 0 = (X.length : Int) % 256 := by simpa [blkB] using hx 1 (by omega)
  have b2 : B.getD (pos + 2) 0 = (X.length : Int) / 256 := by simpa [blkB] using hx 2 (by omega)
  have b3 : B.getD (pos + 3) 0 = 255 - (X.length : Int) % 256 := by simpa [blkB] using hx 3 (by omega)
  have b4 : B.getD (pos + 4) 0 = 255 - (X.length : Int) / 256 := by simpa [blkB] using hx 4 (by omega)
  have e0 : numL B s.at_ 1 = la := by
    rw [ha, numL_one, show 8 * pos = 8 * pos + 0 from rfl, bitL_at pos 0 (by omega), b0]
    rcases hla with rfl | rfl <;> rfl
  have e1 : numL B (s.at_ + 1) 2 = 0 := by
    rw [ha]
    simp only [numL]
    rw [show 8 * pos + 1 + 0 = 8 * pos + 1 from rfl, show 8 * pos + 1 + 1 = 8 * pos + 2 from rfl, bitL_at pos 1 (by omega), bitL_at pos 2 (by omega), b0]
    rcases hla with rfl | rfl <;> rfl
  have hal : alg (s.at_ + 3) = 8 * (pos + 1) := by rw [alg_eq, ha]; omega
  have n1 : numL B (alg (s.at_ + 3)) 16 = (X.length : Int) := by rw [hal, numL_16 (hB.get _) (hB.get _), b1, show pos + 1 + 1 = pos + 2 from rfl, b2]; omega
  have n2 : numL B (alg (s.at_ + 3) + 16) 16 = 65535 - (X.length : Int) := by rw [hal, show 8 * (pos + 1) + 16 = 8 * (pos + 3) by omega, numL_16 (hB.get _) (hB.get _), b3, show pos + 3 + 1 = pos + 4 from rfl, b4]; omega
  have hb := beg_0y (B := B) (s := s) (by omega) e1 (by omega) (by rw [n1, n2]; omega)
  have h1 := (one_b (B := B) (mo := mo) (s := s) (by omega) hk).trans hb
  rw [n1, e0, hal] at h1
  obtain ⟨s', g, a1, a2, a3, a4, a5⟩ := puts_all (mo := mo) hB X (s := { s with at_ := 8 * (pos + 1) + 32, kind := 0, left := ((X.length : Int)).toNat, last := decide (la = 1) }) (pos := pos + 5) rfl hc he (by show ((X.length : Int)).toNat = X.length; omega) (by show 8 * (pos + 1) + 32 = 8 * (pos + 5); omega) (fun i hi => by
    have := hx (5 + i) (by omega)
    rw [show pos + 5 + i = pos + (5 + i) by omega, this]; simp [blkB, Nat.add_comm 5 i]) (by omega) hm
  exact ⟨s', (Goes.one he h1).trans g, by rw [a1]; omega, a2, a3, a4, a5⟩
/-- Blocks one after another; the last one says so. -/
def blks : List (List Int) → List Int
  | [] => []
  | [X] => blkB 1 X
  | X :: Y :: L => blkB 0 X ++ blks (Y :: L)
theorem getD_app (a b : List Int) (i : Nat) (h : i < a.length) : (a ++ b).getD i 0 = a.getD i 0 := by
  rw [List.getD_eq_getElem?_getD, List.getElem?_append_left h, ← List.getD_eq_getElem?_getD]
theorem getD_app2 (a b : List Int) (i : Nat) : (a ++ b).getD (a.length + i) 0 = b.getD i 0 := by
  rw [List.getD_eq_getElem?_getD, List.getElem?_append_right (by omega), Nat.add_sub_cancel_left, ← List.getD_eq_getElem?_getD]
theorem blks_all {mo : Int} (hB : Byt B) : ∀ (L : List (List Int)) {s : St} {pos : Nat}, L ≠ [] → (∀ X ∈ L, X.length ≤ 65535) → s.kind = -1 → s.copies = 0 → s.ended = false → s.at_ = 8 * pos → (∀ i, i < (blks L).length → B.getD (pos + i) 0 = (blks L).getD i 0) → pos + (blks L).length ≤ B.length → (s.out.length : Int) + L.flatten.length ≤ mo →
    ∃ s', Goes B mo s s' ∧ s'.at_ = 8 * (pos + (blks L).length) ∧ s'.out = s.out ++ L.flatten ∧ s'.ended = true := by
  intro L
  induction L with
  | nil => intro s pos h; exact (h rfl).elim
  | cons X L ih =>
    intro s pos _ hL hk hc he ha hx hp hm
    cases L with
    | nil =>
      obtain ⟨s', g, a1, a2, a3, a4, a5⟩ := block_all (mo := mo) hB (.inr rfl) (hL X (List.mem_cons_self ..)) hk hc he ha hx hp (by simpa using hm)
      exact ⟨s', g, a1, by simpa using a2, a5⟩
    | cons Y L =>
      have hlen : (blks (X :: Y :: L)).length = (blkB 0 X).length + (blks (Y :: L)).length := by simp [blks]
      have hfl : (X :: Y :: L).flatten.length = X.length + (Y :: L).flatten.length := by simp
      obtain ⟨s', g, a1, a2, a3, a4, a5⟩ := block_all (mo := mo) hB (.inl rfl) (hL X (List.mem_cons_self ..)) hk hc he ha (fun i hi => by rw [hx i (by omega)]; exact getD_app _ _ _ hi) (by omega) (by omega)
      obtain ⟨s2, g2, c1, c2, c3⟩ := ih (s := s') (pos := pos + (blkB 0 X).length) (by simp) (fun Z hZ => hL Z (List.mem_cons_of_mem _ hZ)) a3 a4 (by rw [a5]; rfl) a1 (fun i hi => by
        rw [show pos + (blkB 0 X).length + i = pos + ((blkB 0 X).length + i) by omega, hx _ (by omega)]; exact getD_app2 _ _ _) (by omega) (by rw [a2]; simp only [List.length_append]; omega)
      exact ⟨s2, g.trans g2, by rw [c1, hlen]; omega, by rw [c2, a2]; simp, c3⟩
end
theorem blkB_byt {la : Int} {X : List Int} (hla : la = 0 ∨ la = 1) (hX : X.length ≤ 65535) (h : Byt X) : Byt (blkB la X) := by
  intro x hx
  unfold blkB at hx
  rcases List.mem_append.1 hx with hx | hx
  · simp only [List.mem_cons, List.not_mem_nil, or_false] at hx
    rcases hx with rfl | rfl | rfl | rfl | rfl <;> omega
  · exact h x hx
theorem blks_byt : ∀ (L : List (List Int)), (∀ X ∈ L, X.length ≤ 65535 ∧ Byt X) → Byt (blks L)
  | [], _ => fun x hx => by cases hx
  | [X], h => blkB_byt (.inr rfl) (h X (List.mem_cons_self ..)).1 (h X (List.mem_cons_self ..)).2
  | X :: Y :: L, h => fun x hx => by
    rcases List.mem_append.1 hx with hx | hx
    · exact blkB_byt (.inl rfl) (h X (List.mem_cons_self ..)).1 (h X (List.mem_cons_self ..)).2 x hx
    · exact blks_byt (Y :: L) (fun Z hZ => h Z (List.mem_cons_of_mem _ hZ)) x hx
/-- What stored blocks come to. -/
theorem blks_res {L : List (List Int)} (hne : L ≠ []) (hL : ∀ X ∈ L, X.length ≤ 65535 ∧ Byt X) {t : List Int} (ht : Byt t) : Res (blks L ++ t) L.flatten.length (L.flatten, ((blks L).length : Int), 0) ∧ ∀ mo : Int, 0 ≤ mo → mo < L.flatten.length → Res (blks L ++ t) mo ([], 0, 6) := by
  have hB : Byt (blks L ++ t) := fun x hx => by
    rcases List.mem_append.1 hx with hx | hx
    · exact blks_byt L hL x hx
    · exact ht x hx
  obtain ⟨s', g, a1, a2, a3⟩ := blks_all (mo := L.flatten.length) hB L (s := start) (pos := 0) hne (fun X hX => (hL X hX).1) rfl rfl rfl rfl (fun i hi => by rw [Nat.zero_add]; exact getD_app _ _ _ hi) (by rw [List.length_append]; omega) (by show ((0 : Nat) : Int) + _ ≤ _; omega)
  have hr : Runs (blks L ++ t) L.flatten.length start (.ok (L.flatten, (blks L).length)) := by
    have := g _ (.done a3)
    rw [a2, a1, show (8 * (0 + (blks L).length) + 7) / 8 = (blks L).length by omega, show start.out ++ L.flatten = L.flatten from rfl] at this
    exact this
  refine ⟨.inr ⟨by omega, _, hr, rfl⟩, fun mo h0 h1 => ?_⟩
  have hm := (runs_mo (mo' := mo) hB hr (start_ok (by omega)) _ _ rfl).2.2 (by show ((0 : Nat) : Int) ≤ mo; omega) h1
  exact .inr ⟨h0, _, hm, rfl⟩
/-- The first blocks, as they are written. -/
def blkI (L : List (List Int)) : Nat → List Int
  | 0 => []
  | i + 1 => blkI L i ++ blkB (if i + 1 = L.length then 1 else 0) (L.getD i [])
theorem blkI_end (L : List (List Int)) : ∀ i, i ≤ L.length → blkI L i ++ blks (L.drop i) = blks L
  | 0, _ => rfl
  | i + 1, h => by
    have ih := blkI_end L i (by omega)
    rw [← ih]
    have hd : L.drop i = L.getD i [] :: L.drop (i + 1) := by
      rw [List.drop_eq_getElem_cons (by omega)]
      congr 1
      simp [List.getD_eq_getElem?_getD, show i < L.length by omega]
    rw [hd]
    simp only [blkI]
    rw [List.append_assoc]
    congr 1
    by_cases he : i + 1 = L.length
    · rw [if_pos he, List.drop_eq_nil_of_le (show L.length ≤ i + 1 by omega)]; simp [blks]
    · rw [if_neg he]
      have h2 : L.drop (i + 1) = L.getD (i + 1) [] :: L.drop (i + 2) := by
        rw [List.drop_eq_getElem_cons (by omega)]
        congr 1
        simp [List.getD_eq_getElem?_getD, show i + 1 < L.length by omega]
      rw [h2]
      rfl
theorem blkI_all (L : List (List Int)) : blkI L L.length = blks L := by
  have := blkI_end L L.length (Nat.le_refl _)
  rw [List.drop_length] at this
  simpa [blks] using this
end Go.InfP
namespace Go.InfP
open Go.BitP Go.HuffP
set_option linter.unusedVariables false
theorem blkI_next {L : List (List Int)} {i : Nat} {la : Int} {X : List Int} (hX : L.getD i [] = X) (hla : la = if i + 1 = L.length then 1 else 0) : blkI L (i + 1) = (blkI L i ++ [la, (X.length : Int) % 256, (X.length : Int) / 256, 255 - (X.length : Int) % 256, 255 - (X.length : Int) / 256]) ++ X := by
  subst hX; subst hla
  simp only [blkI, blkB]
  rw [List.append_assoc]
theorem flat_next {L : List (List Int)} {i : Nat} {X : List Int} (hi : i < L.length) (hX : L.getD i [] = X) : (L.take (i + 1)).flatten = (L.take i).flatten ++ X := by
  subst hX
  rw [List.take_succ_eq_append_getElem hi, List.flatten_append]
  simp [List.getD_eq_getElem?_getD, hi]
/-- So far the rows are short. -/
structure Bk (L : List (List Int)) (i : Nat) : Prop where
  le : i ≤ L.length
  few : ∀ j, j < i → (L.getD j []).length ≤ 1000
  byt : ∀ j, j < i → Byt (L.getD j [])
  wlen : (L.take i).flatten.length ≤ 1000 * i
  blen : (blkI L i).length ≤ 1005 * i
theorem Bk.zero (L : List (List Int)) : Bk L 0 := ⟨Nat.zero_le _, fun j h => by omega, fun j h => by omega, by simp, by simp [blkI]⟩
theorem Bk.next {L : List (List Int)} {i : Nat} {X : List Int} (h : Bk L i) (hi : i < L.length) (hX : L.getD i [] = X) (hl : X.length ≤ 1000) (hb : Byt X) : Bk L (i + 1) := by
  have h1 := h.wlen
  have h2 := h.blen
  refine ⟨hi, fun j hj => ?_, fun j hj => ?_, ?_, ?_⟩
  · by_cases e : j = i
    · subst e; rw [hX]; exact hl
    · exact h.few j (by omega)
  · by_cases e : j = i
    · subst e; rw [hX]; exact hb
    · exact h.byt j (by omega)
  · rw [flat_next hi hX, List.length_append]; omega
  · simp only [blkI]; rw [List.length_append, blkB_len, hX]; omega
theorem Bk.res {L : List (List Int)} {i : Nat} (h : Bk L i) (hi : i = L.length) (hne : L.length ≠ 0) {t : List Int} (ht : Byt t) : Res (blks L ++ t) L.flatten.length (L.flatten, ((blks L).length : Int), 0) ∧ (∀ mo : Int, 0 ≤ mo → mo < L.flatten.length → Res (blks L ++ t) mo ([], 0, 6)) ∧ Byt (blks L ++ t) := by
  subst hi
  have hL : ∀ X ∈ L, X.length ≤ 65535 ∧ Byt X := fun X hX => by
    obtain ⟨j, hj⟩ := List.getElem?_of_mem hX
    have hlt := (List.getElem?_eq_some_iff.1 hj).1
    have e : L.getD j [] = X := by simp [List.getD_eq_getElem?_getD, hj]
    have h1 := h.few j hlt
    have h2 := h.byt j hlt
    rw [e] at h1 h2
    exact ⟨by omega, h2⟩
  have hn : L ≠ [] := fun e => hne (by rw [e]; rfl)
  obtain ⟨r1, r2⟩ := blks_res hn hL ht
  exact ⟨r1, r2, fun x hx => by
    rcases List.mem_append.1 hx with hx | hx
    · exact blks_byt L hL x hx
    · exact ht x hx⟩
end Go.InfP

/- Steps of the proof: the walks of the functions that the statement reaches; printed by a program of ours. -/
import Derived.Test.YtoplcgkafaoafaaM37
import Derived.KernelRfl
/-
  What the document's own answer keeps: tables; blocks.
-/
namespace Go.InfP
set_option linter.unusedVariables false
open Go.BitP Go.HuffP
set_option linter.unusedVariables false
set_option linter.unusedSimpArgs false
def baseT : List Int := [3, 4, 5, 6, 7, 8, 9, 10, 11, 13, 15, 17, 19, 23, 27, 31, 35, 43, 51, 59, 67, 83, 99, 115, 131, 163, 195, 227, 258]
def moreT : List Int := [0, 0, 0, 0, 0, 0, 0, 0, 1, 1, 1, 1, 2, 2, 2, 2, 3, 3, 3, 3, 4, 4, 4, 4, 5, 5, 5, 5, 0]
theorem base_at {s : Int} (h : 0 ≤ s ∧ s < 29) : baseT.getD s.toNat 0 = lnB s ∧ moreT.getD s.toNat 0 = (lnM s : Int) := by
  have : ∀ k : Nat, k < 29 → baseT.getD k 0 = lnB k ∧ moreT.getD k 0 = (lnM k : Int) := by decide
  have h2 := this s.toNat (by omega)
  rw [Int.toNat_of_nonneg h.1] at h2
  exact h2
theorem lnB_le {s : Int} (h : 0 ≤ s ∧ s < 29) : 3 ≤ lnB s ∧ lnB s ≤ 258 ∧ lnM s ≤ 5 := by
  have : ∀ k : Nat, k < 29 → 3 ≤ lnB k ∧ lnB k ≤ 258 ∧ lnM k ≤ 5 := by decide
  have h2 := this s.toNat (by omega)
  rw [Int.toNat_of_nonneg h.1] at h2
  exact h2
theorem dsB_le {s : Int} (h : 0 ≤ s ∧ s < 30) : 1 ≤ dsB s ∧ dsB s < 40000 ∧ dsM s ≤ 13 := by
  have : ∀ k : Nat, k < 30 → 1 ≤ dsB k ∧ dsB k < 40000 ∧ dsM k ≤ 13 := by decide
  have h2 := this s.toNat (by omega)
  rw [Int.toNat_of_nonneg h.1] at h2
  exact h2
/-- A block is done: the machine comes there. -/
structure Dn (B : List Int) (mo : Int) (S S' : St) : Prop where
  goes : Goes B mo S S'
  ok : Ok B mo S'
  kind : S'.kind = -1
  copies : S'.copies = 0
  ended : S'.ended = S'.last
  last : S'.last = S.last
/-- Within a block. -/
structure In (B : List Int) (mo : Int) (S s : St) : Prop where
  goes : Goes B mo S s
  ok : Ok B mo s
  kind : s.kind = S.kind
  copies : s.copies = 0
  ended : s.ended = false
  last : s.last = S.last
  lits : s.lits = S.lits
  dist : s.dist = S.dist
section
variable {B : List Int} {mo e : Int} {S s s2 : St}
end
end Go.InfP
namespace Go.InfP
open Go.BitP Go.HuffP
set_option linter.unusedVariables false
/-- A block's way, till it is done. -/
inductive Bl (B : List Int) (mo : Int) : St → Except Int St → Prop
  | done {s : St} : s.kind = -1 → Bl B mo s (.ok s)
  | step {s s' : St} {o : Except Int St} : ¬ s.kind = -1 → one B mo s = .ok s' → Bl B mo s' o → Bl B mo s o
  | fail {s : St} {e : Int} : ¬ s.kind = -1 → one B mo s = .error e → Bl B mo s (.error e)
section
variable {B : List Int} {mo e : Int} {s s2 : St} {o : Except Int St}
theorem Bl.end_ (h : Bl B mo s o) (k : s.kind = -1) : o = .ok s := by
  cases h with
  | done _ => rfl
  | step h _ _ => exact (h k).elim
  | fail h _ => exact (h k).elim
theorem Bl.next (h : Bl B mo s o) (k : ¬ s.kind = -1) (p : one B mo s = .ok s2) : Bl B mo s2 o := by
  cases h with
  | done q => exact (k q).elim
  | step _ h2 h3 => rw [h2] at p; cases p; exact h3
  | fail _ h2 => rw [h2] at p; cases p
theorem Bl.err (h : Bl B mo s o) (k : ¬ s.kind = -1) (p : one B mo s = .error e) : o = .error e := by
  cases h with
  | done q => exact (k q).elim
  | step _ h2 h3 => rw [h2] at p; cases p
  | fail _ h2 => rw [h2] at p; cases p; rfl
theorem one_keep (k : ¬ s.kind = -1) (he : s.ended = false) (p : one B mo s = .ok s2) : s2.last = s.last ∧ ((¬ s2.kind = -1 ∧ s2.ended = false) ∨ (s2.kind = -1 ∧ s2.copies = 0 ∧ s2.ended = s2.last)) := by
  by_cases hc : 0 < s.copies
  · have h : put_ mo { s with copies := s.copies - 1 } (s.out.getD (s.out.length - s.far) 0) = .ok s2 := by unfold one at p; rw [if_pos hc] at p; exact p
    obtain ⟨_, rfl⟩ := put_ok h
    exact ⟨rfl, .inl ⟨k, he⟩⟩
  by_cases k0 : s.kind = 0
  · by_cases hl : s.left = 0
    · rw [one_l0 hc k k0 hl] at p; cases p; exact ⟨rfl, .inr ⟨rfl, by show s.copies = 0; omega, rfl⟩⟩
    · by_cases hx : 8 * B.length < s.at_ + 8
      · rw [one_ls hc k k0 hl hx] at p; cases p
      · rw [one_lp hc k k0 hl (by omega)] at p
        obtain ⟨_, rfl⟩ := put_ok p
        exact ⟨rfl, .inl ⟨k, he⟩⟩
  · rw [one_c hc k k0] at p
    rcases ex_or (sym s.lits B s.at_) with ⟨e, hs⟩ | ⟨⟨y, a1⟩, hs⟩
    · rw [cod_e hs] at p; cases p
    by_cases hy : y < 256
    · rw [cod_put hs hy] at p
      obtain ⟨_, rfl⟩ := put_ok p
      exact ⟨rfl, .inl ⟨k, he⟩⟩
    by_cases hy2 : y = 256
    · rw [cod_end hs hy2] at p; cases p; exact ⟨rfl, .inr ⟨rfl, by show s.copies = 0; omega, rfl⟩⟩
    rcases ex_or (lenE B (y - 257) a1) with ⟨e, hn⟩ | ⟨⟨n, a2⟩, hn⟩
    · rw [cod_l hs (by omega) hn] at p; cases p
    rcases ex_or (awayE B s.dist a2) with ⟨e, hf⟩ | ⟨⟨f, a3⟩, hf⟩
    · rw [cod_a hs (by omega) hn hf] at p; cases p
    by_cases hfo : f ≤ s.out.length
    · rw [cod_y hs (by omega) hn hf hfo] at p; cases p; exact ⟨rfl, .inl ⟨k, he⟩⟩
    · rw [cod_n hs (by omega) hn hf hfo] at p; cases p
theorem or_ended {s : St} (hs : (¬ s.kind = -1 ∧ s.ended = false) ∨ (s.kind = -1 ∧ s.copies = 0 ∧ s.ended = s.last)) (k : ¬ s.kind = -1) : s.ended = false := by
  rcases hs with ⟨_, h⟩ | ⟨h, _⟩
  · exact h
  · exact (k h).elim
/-- What a block leaves. -/
structure Left (B : List Int) (mo : Int) (s s2 : St) : Prop where
  goes : Goes B mo s s2
  ok : Ok B mo s2
  kind : s2.kind = -1
  copies : s2.copies = 0
  ended : s2.ended = s2.last
  last : s2.last = s.last
  less : mu B s2 ≤ mu B s
theorem bl_good (hB : Byt B) (h : Bl B mo s o) : Ok B mo s → ((¬ s.kind = -1 ∧ s.ended = false) ∨ (s.kind = -1 ∧ s.copies = 0 ∧ s.ended = s.last)) → (∀ s2, o = .ok s2 → Left B mo s s2) ∧ (∀ e, o = .error e → Runs B mo s (.error e)) := by
  induction h with
  | done k => intro hok hs; exact ⟨fun s2 e => by
      cases e
      rcases hs with ⟨h, _⟩ | ⟨_, h2, h3⟩
      · exact (h k).elim
      · exact ⟨.refl _ _ _, hok, k, h2, h3, rfl, Nat.le_refl _⟩, fun e h => by cases h⟩
  | step k p h ih =>
    intro hok hs
    have he := or_ended hs k
    have hg := one_good hB hok p
    have hk := one_keep k he p
    obtain ⟨h1, h2⟩ := ih hg.ok hk.2
    refine ⟨fun s2 e => ?_, fun e q => .step he p (h2 e q)⟩
    have hl := h1 s2 e
    have := hg.less
    exact ⟨(Goes.one he p).trans hl.goes, hl.ok, hl.kind, hl.copies, hl.ended, hl.last.trans hk.1, Nat.le_trans hl.less (Nat.le_of_lt this)⟩
  | fail k p =>
    intro hok hs
    have he := or_ended hs k
    exact ⟨fun s2 e => (by cases e), fun e q => by cases q; exact .fail he p⟩
theorem bl_ex (hB : Byt B) : ∀ (k : Nat) {s : St}, mu B s ≤ k → Ok B mo s → ∃ o, Bl B mo s o := by
  intro k
  induction k with
  | zero =>
    intro s hk hok
    by_cases h1 : s.kind = -1
    · exact ⟨_, .done h1⟩
    rcases ex_or (one B mo s) with ⟨e, h⟩ | ⟨s2, h⟩
    · exact ⟨_, .fail h1 h⟩
    · have := (one_good hB hok h).less; omega
  | succ k ih =>
    intro s hk hok
    by_cases h1 : s.kind = -1
    · exact ⟨_, .done h1⟩
    rcases ex_or (one B mo s) with ⟨e, h⟩ | ⟨s2, h⟩
    · exact ⟨_, .fail h1 h⟩
    · have hg := one_good hB hok h
      have := hg.less
      obtain ⟨o, ho⟩ := ih (show mu B s2 ≤ k by omega) hg.ok
      exact ⟨o, .step h1 h ho⟩
end
/-- A block, its beginning with it. -/
def BO (B : List Int) (mo : Int) (S : St) (o : Except Int St) : Prop := (∃ e, begin_ B S = .error e ∧ o = .error e) ∨ (∃ S1, begin_ B S = .ok S1 ∧ Bl B mo S1 o)
section
variable {B : List Int} {mo e : Int} {S S1 : St} {o : Except Int St}
theorem BO.err (h : BO B mo S o) (k : begin_ B S = .error e) : o = .error e := by
  rcases h with ⟨e', h1, h2⟩ | ⟨S', h1, _⟩
  · rw [h1] at k; cases k; exact h2
  · rw [h1] at k; cases k
theorem BO.go (h : BO B mo S o) (k : begin_ B S = .ok S1) : Bl B mo S1 o := by
  rcases h with ⟨e', h1, h2⟩ | ⟨S', h1, h2⟩
  · rw [h1] at k; cases k
  · rw [h1] at k; cases k; exact h2
theorem begin_last (k : S.kind = -1) (h : begin_ B S = .ok S1) : S1.last = decide (numL B S.at_ 1 = 1) ∧ ¬ S1.kind = -1 ∧ S1.ended = S.ended ∧ S1.copies = S.copies := by
  unfold begin_ at h
  split at h
  · cases h
  split at h
  · split at h
    · cases h
    split at h
    · cases h; exact ⟨rfl, (fun h => absurd (show (0 : Int) = -1 from h) (by decide)), rfl, rfl⟩
    · cases h
  split at h
  · cases h; exact ⟨rfl, (fun h => absurd (show (1 : Int) = -1 from h) (by decide)), rfl, rfl⟩
  split at h
  · split at h
    · cases h
    · cases h; exact ⟨rfl, (fun h => absurd (show (2 : Int) = -1 from h) (by decide)), rfl, rfl⟩
  · cases h
/-- What a block leaves, from its beginning on. -/
theorem bo_good (hB : Byt B) (hok : Ok B mo S) (k : S.kind = -1) (c : S.copies = 0) (he : S.ended = false) (h : BO B mo S o) : (∀ s2, o = .ok s2 → Goes B mo S s2 ∧ Ok B mo s2 ∧ s2.kind = -1 ∧ s2.copies = 0 ∧ s2.ended = decide (numL B S.at_ 1 = 1) ∧ mu B s2 < mu B S) ∧ (∀ e, o = .error e → Runs B mo S (.error e)) := by
  have hone := one_b (B := B) (mo := mo) (s := S) (by omega) k
  rcases h with ⟨e', h1, h2⟩ | ⟨S', h1, h2⟩
  · refine ⟨fun s2 q => (by rw [h2] at q; cases q), fun e q => ?_⟩
    rw [h2] at q; cases q
    exact .fail he (hone.trans h1)
  · have hp := hone.trans h1
    have hg := one_good hB hok hp
    obtain ⟨b1, b2, b3, b4⟩ := begin_last k h1
    obtain ⟨g1, g2⟩ := bl_good hB h2 hg.ok (.inl ⟨b2, b3.trans he⟩)
    refine ⟨fun s2 q => ?_, fun e q => .step he hp (g2 e q)⟩
    have hl := g1 s2 q
    exact ⟨(Goes.one he hp).trans hl.goes, hl.ok, hl.kind, hl.copies, by rw [hl.ended, hl.last, b1], Nat.lt_of_le_of_lt hl.less hg.less⟩
theorem bo_ex (hB : Byt B) (hok : Ok B mo S) (k : S.kind = -1) (c : S.copies = 0) : ∃ o, BO B mo S o := by
  rcases ex_or (begin_ B S) with ⟨e, h⟩ | ⟨S1, h⟩
  · exact ⟨_, .inl ⟨e, h, rfl⟩⟩
  · have hg := one_good hB hok ((one_b (by omega) k).trans h)
    obtain ⟨o, ho⟩ := bl_ex hB _ (Nat.le_refl _) hg.ok
    exact ⟨o, .inr ⟨S1, h, ho⟩⟩
end
section
variable {B ds : List Int} {s d : Int} {a a3 n : Nat}
theorem lenE_sh (h : s < 29) (hx : 8 * B.length < a + lnM s) : lenE B s a = .error 2 := by unfold lenE; rw [if_neg (by omega)]; exact if_pos hx
theorem lenE_ok (h : s < 29) (hx : a + lnM s ≤ 8 * B.length) (hn : lnB s + numL B a (lnM s) = (n : Int)) : lenE B s a = .ok ((n : Int), a + lnM s) := by unfold lenE; rw [if_neg (by omega), hn]; exact if_neg (by omega)
theorem awayE_sh (hs : sym ds B a = .ok (d, a3)) (h : d < 30) (hx : 8 * B.length < a3 + dsM d) : awayE B ds a = .error 2 := by unfold awayE; rw [hs]; simp only; rw [if_neg (by omega)]; exact if_pos hx
theorem awayE_ok (hs : sym ds B a = .ok (d, a3)) (h : d < 30) (hx : a3 + dsM d ≤ 8 * B.length) (hn : dsB d + numL B a3 (dsM d) = (n : Int)) : awayE B ds a = .ok ((n : Int), a3 + dsM d) := by unfold awayE; rw [hs]; simp only; rw [if_neg (by omega), hn]; exact if_neg (by omega)
end
end Go.InfP
namespace Go.InfP
set_option linter.unusedVariables false
theorem fixL_nth : ∀ k, k < 288 → fixL.take k ++ [if k < 144 then 8 else if k < 256 then 9 else if k < 280 then 7 else 8] = fixL.take (k + 1) := by decide +kernel
theorem fixL_8 {k : Nat} (h : k < 144) : fixL.take k ++ [8] = fixL.take (k + 1) := by have := fixL_nth k (by omega); rw [if_pos h] at this; exact this
theorem fixL_9 {k : Nat} (h : 144 ≤ k ∧ k < 256) : fixL.take k ++ [9] = fixL.take (k + 1) := by have := fixL_nth k (by omega); rw [if_neg (by omega), if_pos h.2] at this; exact this
theorem fixL_7 {k : Nat} (h : 256 ≤ k ∧ k < 280) : fixL.take k ++ [7] = fixL.take (k + 1) := by have := fixL_nth k (by omega); rw [if_neg (by omega), if_neg (by omega), if_pos h.2] at this; exact this
theorem fixL_8b {k : Nat} (h : 280 ≤ k ∧ k < 288) : fixL.take k ++ [8] = fixL.take (k + 1) := by have := fixL_nth k (by omega); rw [if_neg (by omega), if_neg (by omega), if_neg (by omega)] at this; exact this
end Go.InfP
namespace Go.InfP
set_option linter.unusedVariables false
theorem rpB_16 {s : Int} (h : s = 16) : rpB s = 2 := if_pos h
theorem rpB_17 {s : Int} (h : s = 17) : rpB s = 3 := by subst h; rfl
theorem rpB_18 {s : Int} (h : s = 18) : rpB s = 7 := by subst h; rfl
theorem rpL_16 {s : Int} (h : ¬ s = 18) : rpL s = 3 := if_neg h
theorem rpL_18 {s : Int} (h : s = 18) : rpL s = 11 := if_pos h
theorem rpW_16 {s : Int} {l : List Int} (h : s = 16) : rpW s l = l.getD (l.length - 1) 0 := if_pos h
theorem rpW_0 {s : Int} {l : List Int} (h : ¬ s = 16) : rpW s l = 0 := if_neg h
theorem rp_le {s : Int} : rpB s ≤ 7 ∧ 3 ≤ rpL s ∧ rpL s ≤ 11 := by
  unfold rpB rpL
  split <;> split <;> (try split) <;> omega
theorem sy4 {s : Int} (l : List Int) (h : 16 ≤ s ∧ s < 19) : (s = 16 ∧ l.length = 0) ∨ (s = 16 ∧ 0 < l.length) ∨ s = 17 ∨ s = 18 := by omega
theorem rep_big {B l : List Int} {s : Int} {a n : Nat} (h : ¬ s < 16) (hx : a + rpB s ≤ 8 * B.length) (hl : ¬ (s = 16 ∧ l.length = 0)) (hn : rpL s + BitP.numL B a (rpB s) = (n : Int)) : rep B s l a = .ok (rpW s l, (n : Int), a + rpB s) := by
  rw [rep_ok h (by omega) (fun q => hl ⟨q.1, by rw [q.2]; rfl⟩), hn]
end Go.InfP
namespace Go.InfP
open Go.BitP
set_option linter.unusedVariables false
theorem bo_or {B : List Int} {mo : Int} {S : St} (hB : Byt B) (hok : Ok B mo S) (k : S.kind = -1) (c : S.copies = 0) : (∃ e, BO B mo S (.error e)) ∨ ∃ S2, BO B mo S (.ok S2) := by
  obtain ⟨o, h⟩ := bo_ex hB hok k c
  cases o with
  | error e => exact .inl ⟨e, h⟩
  | ok s => exact .inr ⟨s, h⟩
theorem bo_nz {B : List Int} {mo e : Int} {S : St} (hB : Byt B) (hok : Ok B mo S) (k : S.kind = -1) (c : S.copies = 0) (he : S.ended = false) (h : BO B mo S (.error e)) : e ≠ 0 := runs_nz ((bo_good hB hok k c he h).2 e rfl) rfl
end Go.InfP

/-
  Ways that are reckoned.
-/
namespace Go.InfP
open Go.BitP Go.HuffP
set_option linter.unusedVariables false
def run (B : List Int) (mo : Int) : Nat → St → Option Oc
  | 0, _ => none
  | f + 1, s => if s.ended = true then some (.ok (s.out, (s.at_ + 7) / 8)) else match one B mo s with
    | .error e => some (.error e)
    | .ok s' => run B mo f s'
theorem run_sound {B : List Int} {mo : Int} : ∀ {f : Nat} {s : St} {o : Oc}, run B mo f s = some o → Runs B mo s o := by
  intro f
  induction f with
  | zero => intro s o h; cases h
  | succ f ih =>
    intro s o h
    unfold run at h
    split at h
    · rename_i he; cases h; exact .done he
    · rename_i he
      split at h
      · rename_i e h1; cases h; exact .fail (by simpa using he) h1
      · rename_i s' h1; exact .step (by simpa using he) h1 (ih h)
def runB (B : List Int) (mo : Int) (f : Nat) (q : List Int × Int × Int) : Bool := match run B mo f start with
  | some o => decide (Ou o = q)
  | none => false
theorem runB_res {B : List Int} {mo : Int} {f : Nat} {q : List Int × Int × Int} (hm : 0 ≤ mo) (h : runB B mo f q = true) : Res B mo q := by
  unfold runB at h
  split at h
  · rename_i o ho; exact .inr ⟨hm, o, run_sound ho, (of_decide_eq_true h).symm⟩
  · cases h
theorem awake1 : Res [3, 0] 9 ([], 2, 0) := runB_res (f := 9) (by decide) (by kernel_rfl)
theorem awake2 : Res [1, 2, 0, 253, 255, 7, 8, 9] 9 ([7, 8], 7, 0) := runB_res (f := 9) (by decide) (by kernel_rfl)
end Go.InfP
namespace Go.InfP
theorem known1 : Res [203, 72, 205, 201, 201, 7, 0] 99 ([104, 101, 108, 108, 111], 7, 0) := runB_res (f := 20) (by decide) (by kernel_rfl)
theorem known2 : Res [7, 0] 99 ([], 0, 4) := runB_res (f := 20) (by decide) (by kernel_rfl)
theorem known3 : Res [1, 2, 0, 253, 254, 1, 2] 99 ([], 0, 4) := runB_res (f := 20) (by decide) (by kernel_rfl)
theorem known4 : Res [] 99 ([], 0, 2) := runB_res (f := 20) (by decide) (by kernel_rfl)
theorem known5 : Res [3, 0] (-1) ([], 0, 1) := .inl ⟨by decide, rfl⟩
theorem known6 : Res [5, 255, 255] 99 ([], 0, 4) := runB_res (f := 20) (by decide) (by kernel_rfl)
end Go.InfP

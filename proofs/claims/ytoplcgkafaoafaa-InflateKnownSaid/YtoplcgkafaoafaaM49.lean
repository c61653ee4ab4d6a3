/- Steps of the proof: the walks of the functions that the statement reaches; printed by a program of ours. -/
import Derived.Test.YtoplcgkafaoafaaM39
/-
  With more room, with less; streams that go on alike, or are cut.
-/
namespace Go.InfP
set_option linter.unusedVariables false
open Go.BitP Go.HuffP
set_option linter.unusedVariables false
set_option linter.unusedSimpArgs false
/-! ### Room -/
section
variable {B : List Int} {mo mo' y : Int} {s s2 : St}
theorem put_mo (h : put_ mo s y = .ok s2) : ((s2.out.length : Int) ≤ mo' → put_ mo' s y = .ok s2) ∧ (mo' < s2.out.length → put_ mo' s y = .error 6) := by
  obtain ⟨k, rfl⟩ := put_ok h
  have hl : ({ s with out := s.out ++ [y] } : St).out.length = s.out.length + 1 := by simp
  rw [hl]
  exact ⟨fun h => put_yes (by omega), fun h => put_no (by omega)⟩
theorem coded_mo (h : coded B mo s = .ok s2) (hs : (s.out.length : Int) ≤ mo') : ((s2.out.length : Int) ≤ mo' → coded B mo' s = .ok s2) ∧ (mo' < s2.out.length → coded B mo' s = .error 6) := by
  rcases ex_or (sym s.lits B s.at_) with ⟨e, h1⟩ | ⟨⟨y, a⟩, h1⟩
  · rw [cod_e h1] at h; cases h
  by_cases hy : y < 256
  · rw [cod_put h1 hy] at h ⊢; exact put_mo h
  by_cases hy2 : y = 256
  · rw [cod_end h1 hy2] at h ⊢; cases h; exact ⟨fun _ => rfl, fun k => by simp only at k; omega⟩
  rcases ex_or (lenE B (y - 257) a) with ⟨e, hn⟩ | ⟨⟨n, a2⟩, hn⟩
  · rw [cod_l h1 (by omega) hn] at h; cases h
  rcases ex_or (awayE B s.dist a2) with ⟨e, hf⟩ | ⟨⟨f, a3⟩, hf⟩
  · rw [cod_a h1 (by omega) hn hf] at h; cases h
  by_cases hfo : f ≤ s.out.length
  · rw [cod_y h1 (by omega) hn hf hfo] at h ⊢; cases h; exact ⟨fun _ => rfl, fun k => by simp only at k; omega⟩
  · rw [cod_n h1 (by omega) hn hf hfo] at h; cases h
theorem one_mo (h : one B mo s = .ok s2) (hs : (s.out.length : Int) ≤ mo') : ((s2.out.length : Int) ≤ mo' → one B mo' s = .ok s2) ∧ (mo' < s2.out.length → one B mo' s = .error 6) := by
  by_cases hc : 0 < s.copies
  · unfold one at h ⊢; rw [if_pos hc] at h ⊢; exact put_mo h
  by_cases hk : s.kind = -1
  · rw [one_b hc hk] at h ⊢
    refine ⟨fun _ => h, fun k => ?_⟩
    exfalso
    have : s2.out = s.out := by
      unfold begin_ at h
      split at h
      · cases h
      split at h
      · split at h
        · cases h
        split at h
        · cases h; rfl
        · cases h
      split at h
      · cases h; rfl
      split at h
      · split at h
        · cases h
        · cases h; rfl
      · cases h
    rw [this] at k; omega
  by_cases hk0 : s.kind = 0
  · by_cases hl : s.left = 0
    · rw [one_l0 hc hk hk0 hl] at h ⊢; cases h; exact ⟨fun _ => rfl, fun k => by simp only at k; omega⟩
    · by_cases hx : 8 * B.length < s.at_ + 8
      · rw [one_ls hc hk hk0 hl hx] at h; cases h
      · rw [one_lp hc hk hk0 hl (by omega)] at h ⊢; exact put_mo h
  · rw [one_c hc hk hk0] at h ⊢; exact coded_mo h hs
theorem runs_mo {o : Oc} (hB : Byt B) (h : Runs B mo s o) : Ok B mo s → ∀ x n, o = .ok (x, n) → s.out.length ≤ x.length ∧ ((x.length : Int) ≤ mo' → Runs B mo' s (.ok (x, n))) ∧ ((s.out.length : Int) ≤ mo' → mo' < x.length → Runs B mo' s (.error 6)) := by
  induction h with
  | done h => intro hok x n e; cases e; exact ⟨Nat.le_refl _, fun _ => .done h, fun h1 h2 => by omega⟩
  | step h1 h2 h3 ih =>
    intro hok x n e
    have hg := one_good hB hok h2
    obtain ⟨k1, k2, k3⟩ := ih hg.ok x n e
    have hle := hg.le
    refine ⟨by omega, fun k => .step h1 ((one_mo h2 (by omega)).1 (by omega)) (k2 k), fun q1 q2 => ?_⟩
    rename_i s' _
    by_cases hc : mo' < s'.out.length
    · exact .fail h1 ((one_mo h2 q1).2 hc)
    · exact .step h1 ((one_mo h2 q1).1 (by omega)) (k3 (by omega) q2)
  | fail _ _ => intro _ x n e; cases e
theorem res_room {q : List Int × Int × Int} (hB : Byt B) (hm : 0 ≤ mo) (h : Res B mo q) (he : q.2.2 = 0) : (q.1.length : Int) ≤ mo ∧ Res B q.1.length q ∧ Res B ((q.1.length : Int) - 1) ([], 0, if q.1.length = 0 then 1 else 6) := by
  rcases h with ⟨h, _⟩ | ⟨_, o, hr, rfl⟩
  · omega
  cases o with
  | error e => exact (runs_nz hr rfl he).elim
  | ok o =>
    obtain ⟨x, n⟩ := o
    have hq := (runs_room hB hr (start_ok hm) x n rfl).1
    obtain ⟨k1, k2, k3⟩ := runs_mo (mo' := x.length) hB hr (start_ok hm) x n rfl
    obtain ⟨m1, m2, m3⟩ := runs_mo (mo' := (x.length : Int) - 1) hB hr (start_ok hm) x n rfl
    refine ⟨hq, .inr ⟨by show (0 : Int) ≤ (x.length : Int); omega, _, k2 (Int.le_refl _), rfl⟩, ?_⟩
    show Res B ((x.length : Int) - 1) ([], 0, if x.length = 0 then 1 else 6)
    by_cases hz : x.length = 0
    · rw [if_pos hz]; exact .inl ⟨by omega, rfl⟩
    · rw [if_neg hz]
      exact .inr ⟨by omega, .error 6, m3 (by show ((0 : Nat) : Int) ≤ _; omega) (by omega), rfl⟩
end
end Go.InfP

/-
  Streams that go on alike, or are cut.
-/
namespace Go.InfP
set_option linter.unusedVariables false
open Go.BitP Go.HuffP
set_option linter.unusedVariables false
set_option linter.unusedSimpArgs false
/-- The one's bits are the other's, so far. -/
def Same (B B' : List Int) (k : Nat) : Prop := (∀ i, i < k → bitL B' i = bitL B i) ∧ k ≤ 8 * B'.length
section
variable {B B' : List Int} {k : Nat}
theorem numL_same (h : Same B B' k) (a : Nat) : ∀ n, a + n ≤ k → numL B' a n = numL B a n
  | 0, _ => rfl
  | n + 1, hn => by simp only [numL]; rw [numL_same h a n (by omega), h.1 (a + n) (by omega)]
theorem acc_same (h : Same B B' k) (a : Nat) : ∀ n, a + n ≤ k → acc B' a n = acc B a n
  | 0, _ => rfl
  | n + 1, hn => by simp only [acc]; rw [acc_same h a n (by omega), h.1 (a + n) (by omega)]
theorem frs_same (h : Same B B' k) (a : Nat) : ∀ n, a + 3 * n ≤ k → frs B' a n = frs B a n
  | 0, _ => rfl
  | n + 1, hn => by simp only [frs]; rw [frs_same h a n (by omega), numL_same h _ _ (by omega)]
theorem tkGo_same {ls : List Int} {a : Nat} (h : Same B B' k) : ∀ {r n n' : Nat} {s : Int}, tkGo ls B a r n = .hit n' s → (a + n' ≤ k → tkGo ls B' a r n = .hit n' s) ∧ (k = 8 * B'.length → a + n ≤ k → k < a + n' → ∃ m, tkGo ls B' a r n = .short m) := by
  intro r
  induction r with
  | zero => intro n n' s q; cases q
  | succ r ih =>
    intro n n' s q
    have hq := tkGo_hit q
    simp only [tkGo] at q
    split at q
    · rename_i h1
      split at q
      · rename_i h2
        cases q
        refine ⟨fun hk => ?_, fun he hn hk => ?_⟩
        · simp only [tkGo]
          have h0 := h.2
          rw [if_pos (by omega), acc_same h a (n + 1) hk, if_pos h2]
        · refine ⟨n, ?_⟩
          simp only [tkGo]
          rw [if_neg (by omega)]
      · rename_i h2
        obtain ⟨k1, k2⟩ := ih q
        have hh := tkGo_hit q
        refine ⟨fun hk => ?_, fun he hn hk => ?_⟩
        · simp only [tkGo]
          have h0 := h.2
          rw [if_pos (by omega), acc_same h a (n + 1) (by omega), if_neg h2]
          exact k1 hk
        · by_cases hc : a + n < 8 * B'.length
          · obtain ⟨m, hm⟩ := k2 he (by omega) hk
            refine ⟨m, ?_⟩
            simp only [tkGo]
            rw [if_pos hc, acc_same h a (n + 1) (by omega), if_neg h2]
            exact hm
          · refine ⟨n, ?_⟩
            simp only [tkGo]
            rw [if_neg hc]
    · cases q
theorem sym_same {ls : List Int} {a a' : Nat} {s : Int} (h : Same B B' k) (q : sym ls B a = .ok (s, a')) : (a' ≤ k → sym ls B' a = .ok (s, a')) ∧ (k = 8 * B'.length → a ≤ k → k < a' → sym ls B' a = .error 2) := by
  unfold sym at q
  split at q
  · rename_i n s' hs
    cases q
    obtain ⟨k1, k2⟩ := tkGo_same h hs
    refine ⟨fun hk => ?_, fun he ha hk => ?_⟩
    · unfold sym; rw [show tk ls B' a = _ from k1 hk]
    · obtain ⟨m, hm⟩ := k2 he (by omega) hk
      unfold sym; rw [show tk ls B' a = _ from hm]
  · cases q
  · cases q
theorem sym_lt {ls : List Int} {a a' : Nat} {s : Int} (q : sym ls B a = .ok (s, a')) : a < a' := by
  unfold sym at q
  split at q
  · rename_i n s' hs; cases q; have := tkGo_hit hs; omega
  · cases q
  · cases q
theorem rep_same {l : List Int} {s x n : Int} {a a' : Nat} (h : Same B B' k) (q : rep B s l a = .ok (x, n, a')) : (a' ≤ k → rep B' s l a = .ok (x, n, a')) ∧ (k = 8 * B'.length → a ≤ k → k < a' → rep B' s l a = .error 2) ∧ a ≤ a' := by
  have h0 := h.2
  by_cases h1 : s < 16
  · rw [rep_lt h1] at q ⊢; cases q; exact ⟨fun _ => rfl, fun _ _ _ => by omega, Nat.le_refl _⟩
  by_cases h2 : 8 * B.length < a + rpB s
  · rw [rep_short h1 h2] at q; cases q
  by_cases h3 : s = 16 ∧ l = []
  · rw [rep_form h3.1 h3.2 h2] at q; cases q
  rw [rep_ok h1 h2 h3] at q
  cases q
  exact ⟨fun hk => by rw [rep_ok h1 (by omega) h3, numL_same h _ _ hk], fun he ha hk => rep_short h1 (by omega), by omega⟩
theorem lnStep_same {c l l' : List Int} {a a' : Nat} (h : Same B B' k) (q : lnStep B c l a = .ok (l', a')) : (a' ≤ k → lnStep B' c l a = .ok (l', a')) ∧ (k = 8 * B'.length → a ≤ k → k < a' → lnStep B' c l a = .error 2) ∧ a ≤ a' := by
  rcases ln_or B c l a with ⟨e, hs⟩ | ⟨sy, x2, e, hs, hr⟩ | ⟨sy, x2, v, n, x3, hs, hr⟩
  · rw [lnStep_1 hs] at q; cases q
  · rw [lnStep_2 hs hr] at q; cases q
  · rw [lnStep_3 hs hr] at q; cases q
    obtain ⟨s1, s2⟩ := sym_same h hs
    obtain ⟨r1, r2, r3⟩ := rep_same h hr
    have := sym_lt hs
    refine ⟨fun hk => lnStep_3 (s1 (by omega)) (r1 hk), fun he ha hk => ?_, by omega⟩
    by_cases hc : k < x2
    · exact lnStep_1 (s2 he ha hc)
    · exact lnStep_2 (s1 (by omega)) (r2 he (by omega) hk)
theorem lnGo_same {c : List Int} {tot : Nat} (h : Same B B' k) : ∀ {f : Nat} {l l' : List Int} {a a' : Nat}, lnGo B c tot f l a = .ok (l', a') → (a' ≤ k → lnGo B' c tot f l a = .ok (l', a')) ∧ (k = 8 * B'.length → a ≤ k → k < a' → lnGo B' c tot f l a = .error 2) ∧ a ≤ a' := by
  intro f
  induction f with
  | zero => intro l l' a a' q; cases q; exact ⟨fun _ => rfl, fun _ _ _ => by omega, Nat.le_refl _⟩
  | succ f ih =>
    intro l l' a a' q
    simp only [lnGo] at q
    by_cases hl : l.length < tot
    · rw [if_pos hl] at q
      rcases ex_or (lnStep B c l a) with ⟨e, hs⟩ | ⟨⟨l2, a2⟩, hs⟩
      · rw [hs] at q; cases q
      · rw [hs] at q
        simp only at q
        obtain ⟨s1, s2, s3⟩ := lnStep_same h hs
        by_cases hb : l2.length ≤ tot
        · rw [if_pos hb] at q
          obtain ⟨k1, k2, k3⟩ := ih q
          refine ⟨fun hk => ?_, fun he ha hk => ?_, by omega⟩
          · simp only [lnGo]; rw [if_pos hl, s1 (by omega)]; simp only; rw [if_pos hb]; exact k1 hk
          · by_cases hc : k < a2
            · simp only [lnGo]; rw [if_pos hl, s2 he ha hc]
            · simp only [lnGo]; rw [if_pos hl, s1 (by omega)]; simp only; rw [if_pos hb]; exact k2 he (by omega) hk
        · rw [if_neg hb] at q; cases q
    · rw [if_neg hl] at q; cases q
      refine ⟨fun _ => ?_, fun _ _ _ => by omega, Nat.le_refl _⟩
      simp only [lnGo]; rw [if_neg hl]
theorem told_same {a a' : Nat} {l d : List Int} (h : Same B B' k) (q : told B a = .ok (a', l, d)) : (a' ≤ k → told B' a = .ok (a', l, d)) ∧ (k = 8 * B'.length → a ≤ k → k < a' → told B' a = .error 2) ∧ a ≤ a' := by
  have h0 := h.2
  have hgood := told_good q
  by_cases h1 : 8 * B.length < a + 14
  · rw [told_1 h1] at q; cases q
  by_cases h2' : ¬ (hL B a ≤ 286 ∧ hD B a ≤ 30)
  · rw [told_2 (by omega) h2'] at q; cases q
  have h2 := Classical.not_not.1 h2'
  by_cases h3 : 8 * B.length < toldA B a
  · rw [told_3 (by omega) h2 h3] at q; cases q
  by_cases h4' : newE (toldC B a) ≠ 0
  · rw [told_4 (by omega) h2 (by omega) h4'] at q; cases q
  have h4 := Classical.not_not.1 h4'
  have hgo := told_go (by omega) h2 (by omega) h4
  rw [q] at hgo
  rcases ex_or (lnGo B (toldC B a) (toldN B a) (toldN B a) [] (toldA B a)) with ⟨e, h5⟩ | ⟨⟨ls, a2⟩, h5⟩
  · rw [h5] at hgo; cases hgo
  rw [h5] at hgo
  simp only at hgo
  split at hgo
  · cases hgo
  rename_i hfin
  cases hgo
  obtain ⟨g1, g2, g3⟩ := lnGo_same h h5
  have hA := toldA_eq B a
  have hA' := toldA_eq B' a
  have key : a + 14 ≤ k → hL B' a = hL B a ∧ hD B' a = hD B a ∧ hC B' a = hC B a ∧ toldN B' a = toldN B a ∧ toldA B' a = toldA B a := by
    intro hk
    have e1 : hL B' a = hL B a := by unfold hL; rw [numL_same h _ _ (by omega)]
    have e2 : hD B' a = hD B a := by unfold hD; rw [numL_same h _ _ (by omega)]
    have e3 : hC B' a = hC B a := by unfold hC; rw [numL_same h _ _ (by omega)]
    refine ⟨e1, e2, e3, ?_, ?_⟩
    · rw [toldN_eq, toldN_eq, e1, e2]
    · rw [toldA_eq, toldA_eq, e3]
  have keyC : toldA B a ≤ k → toldC B' a = toldC B a := by
    intro hk
    obtain ⟨_, _, e3, _, _⟩ := key (by omega)
    rw [toldC_eq, toldC_eq, e3, frs_same h _ _ (by omega)]
  refine ⟨fun hk => ?_, fun he ha hk => ?_, by omega⟩
  · obtain ⟨e1, e2, e3, e4, e5⟩ := key (by omega)
    have e6 := keyC (by omega)
    rw [told_go (B := B') (a := a) (by omega) (by rw [e1, e2]; exact h2) (by rw [e5]; omega) (by rw [e6]; exact h4), e6, e4, e5, g1 hk]
    simp only
    rw [e1]
    exact if_neg hfin
  · by_cases hc1 : k < a + 14
    · exact told_1 (by omega)
    obtain ⟨e1, e2, e3, e4, e5⟩ := key (by omega)
    by_cases hc2 : k < toldA B a
    · exact told_3 (by omega) (by rw [e1, e2]; exact h2) (by rw [e5]; omega)
    have e6 := keyC (by omega)
    exact told_5 (by omega) (by rw [e1, e2]; exact h2) (by rw [e5]; omega) (by rw [e6]; exact h4) (by rw [e6, e4, e5]; exact g2 he (by omega) hk)
theorem lenE_same {s n : Int} {a a' : Nat} (h : Same B B' k) (q : lenE B s a = .ok (n, a')) : (a' ≤ k → lenE B' s a = .ok (n, a')) ∧ (k = 8 * B'.length → a ≤ k → k < a' → lenE B' s a = .error 2) ∧ a ≤ a' := by
  have h0 := h.2
  unfold lenE at q
  split at q
  · cases q
  rename_i h1
  split at q
  · cases q
  rename_i h2
  cases q
  refine ⟨fun hk => ?_, fun he ha hk => ?_, by omega⟩
  · unfold lenE; rw [if_neg h1, if_neg (by omega), numL_same h _ _ hk]
  · unfold lenE; rw [if_neg h1]; exact if_pos (by omega)
theorem awayE_same {ds : List Int} {n : Int} {a a' : Nat} (h : Same B B' k) (q : awayE B ds a = .ok (n, a')) : (a' ≤ k → awayE B' ds a = .ok (n, a')) ∧ (k = 8 * B'.length → a ≤ k → k < a' → awayE B' ds a = .error 2) ∧ a ≤ a' := by
  have h0 := h.2
  rcases ex_or (sym ds B a) with ⟨e, hs⟩ | ⟨⟨d, a3⟩, hs⟩
  · rw [away_e hs] at q; cases q
  obtain ⟨s1, s2⟩ := sym_same h hs
  have hlt := sym_lt hs
  unfold awayE at q
  rw [hs] at q
  simp only at q
  split at q
  · cases q
  rename_i h1
  split at q
  · cases q
  rename_i h2
  cases q
  refine ⟨fun hk => ?_, fun he ha hk => ?_, by omega⟩
  · unfold awayE; rw [s1 (by omega)]; simp only; rw [if_neg h1, if_neg (by omega), numL_same h _ _ hk]
  · by_cases hc : k < a3
    · exact away_e (s2 he ha hc)
    · unfold awayE; rw [s1 (by omega)]; simp only; rw [if_neg h1]; exact if_pos (by omega)
theorem begin_same {s s2 : St} (h : Same B B' k) (q : begin_ B s = .ok s2) : (s2.at_ ≤ k → begin_ B' s = .ok s2) ∧ (k = 8 * B'.length → s.at_ ≤ k → k < s2.at_ → begin_ B' s = .error 2) ∧ s.at_ ≤ s2.at_ := by
  have h0 := h.2
  by_cases h1 : 8 * B.length < s.at_ + 3
  · rw [beg_1 h1] at q; cases q
  have hx1 : s.at_ + 3 ≤ 8 * B.length := by omega
  have n1 : s.at_ + 3 ≤ k → numL B' s.at_ 1 = numL B s.at_ 1 ∧ numL B' (s.at_ + 1) 2 = numL B (s.at_ + 1) 2 := fun hk => ⟨numL_same h _ _ (by omega), numL_same h _ _ (by omega)⟩
  have hal := alg_eq (s.at_ + 3)
  by_cases k0 : numL B (s.at_ + 1) 2 = 0
  · by_cases hx : 8 * B.length < alg (s.at_ + 3) + 32
    · rw [beg_0s hx1 k0 hx] at q; cases q
    by_cases hn : numL B (alg (s.at_ + 3)) 16 = 65535 - numL B (alg (s.at_ + 3) + 16) 16
    · rw [beg_0y hx1 k0 (by omega) hn] at q; cases q
      refine ⟨fun hk => ?_, fun he ha hk => ?_, by show s.at_ ≤ alg (s.at_ + 3) + 32; omega⟩
      · replace hk : alg (s.at_ + 3) + 32 ≤ k := hk
        obtain ⟨e1, e2⟩ := n1 (by omega)
        have e3 := numL_same h (alg (s.at_ + 3)) 16 (by omega)
        have e4 := numL_same h (alg (s.at_ + 3) + 16) 16 (by omega)
        rw [beg_0y (by omega) (by rw [e2]; exact k0) (by omega) (by rw [e3, e4]; exact hn), e1, e3]
      · replace hk : k < alg (s.at_ + 3) + 32 := hk
        by_cases hc : k < s.at_ + 3
        · exact beg_1 (by omega)
        · exact beg_0s (by omega) (by rw [(n1 (by omega)).2]; exact k0) (by omega)
    · rw [beg_0n hx1 k0 (by omega) hn] at q; cases q
  by_cases k1 : numL B (s.at_ + 1) 2 = 1
  · rw [beg_f hx1 k1] at q; cases q
    refine ⟨fun hk => ?_, fun he ha hk => ?_, by show s.at_ ≤ s.at_ + 3; omega⟩
    · replace hk : s.at_ + 3 ≤ k := hk
      obtain ⟨e1, e2⟩ := n1 (by omega)
      rw [beg_f (by omega) (by rw [e2]; exact k1), e1]
    · replace hk : k < s.at_ + 3 := hk
      exact beg_1 (by omega)
  by_cases k2 : numL B (s.at_ + 1) 2 = 2
  · rcases ex_or (told B (s.at_ + 3)) with ⟨e, ht⟩ | ⟨⟨a, l, d⟩, ht⟩
    · rw [beg_dn hx1 k2 ht] at q; cases q
    · rw [beg_dy hx1 k2 ht] at q; cases q
      obtain ⟨t1, t2, t3⟩ := told_same h ht
      refine ⟨fun hk => ?_, fun he ha hk => ?_, by show s.at_ ≤ a; omega⟩
      · replace hk : a ≤ k := hk
        obtain ⟨e1, e2⟩ := n1 (by omega)
        rw [beg_dy (by omega) (by rw [e2]; exact k2) (t1 hk), e1]
      · replace hk : k < a := hk
        by_cases hc : k < s.at_ + 3
        · exact beg_1 (by omega)
        · exact beg_dn (by omega) (by rw [(n1 (by omega)).2]; exact k2) (t2 he (by omega) hk)
  · rw [beg_no hx1 k0 k1 k2] at q; cases q
theorem put_at {mo y : Int} {s s2 : St} (h : put_ mo s y = .ok s2) : s2.at_ = s.at_ := by
  obtain ⟨_, rfl⟩ := put_ok h; rfl
theorem coded_same {mo : Int} {s s2 : St} (h : Same B B' k) (q : coded B mo s = .ok s2) : (s2.at_ ≤ k → coded B' mo s = .ok s2) ∧ (k = 8 * B'.length → s.at_ ≤ k → k < s2.at_ → coded B' mo s = .error 2) ∧ s.at_ ≤ s2.at_ := by
  rcases ex_or (sym s.lits B s.at_) with ⟨e, hs⟩ | ⟨⟨y, a⟩, hs⟩
  · rw [cod_e hs] at q; cases q
  obtain ⟨s1, s2'⟩ := sym_same h hs
  have hlt := sym_lt hs
  by_cases hy : y < 256
  · rw [cod_put hs hy] at q
    have hat := put_at q
    replace hat : s2.at_ = a := hat
    exact ⟨fun hk => by rw [cod_put (s1 (by omega)) hy]; exact q, fun he ha hk => cod_e (s2' he ha (by omega)), by omega⟩
  by_cases hy2 : y = 256
  · rw [cod_end hs hy2] at q; cases q
    exact ⟨fun hk => cod_end (s1 hk) hy2, fun he ha hk => cod_e (s2' he ha hk), by show s.at_ ≤ a; omega⟩
  rcases ex_or (lenE B (y - 257) a) with ⟨e, hn⟩ | ⟨⟨n, a2⟩, hn⟩
  · rw [cod_l hs (by omega) hn] at q; cases q
  obtain ⟨l1, l2, l3⟩ := lenE_same h hn
  rcases ex_or (awayE B s.dist a2) with ⟨e, hf⟩ | ⟨⟨f, a3⟩, hf⟩
  · rw [cod_a hs (by omega) hn hf] at q; cases q
  obtain ⟨w1, w2, w3⟩ := awayE_same h hf
  by_cases hfo : f ≤ s.out.length
  · rw [cod_y hs (by omega) hn hf hfo] at q; cases q
    refine ⟨fun hk => ?_, fun he ha hk => ?_, by show s.at_ ≤ a3; omega⟩
    · replace hk : a3 ≤ k := hk
      exact cod_y (s1 (by omega)) (by omega) (l1 (by omega)) (w1 hk) hfo
    · replace hk : k < a3 := hk
      by_cases hc : k < a
      · exact cod_e (s2' he ha hc)
      by_cases hc2 : k < a2
      · exact cod_l (s1 (by omega)) (by omega) (l2 he (by omega) hc2)
      · exact cod_a (s1 (by omega)) (by omega) (l1 (by omega)) (w2 he (by omega) hk)
  · rw [cod_n hs (by omega) hn hf hfo] at q; cases q
theorem one_same {mo : Int} {s s2 : St} (h : Same B B' k) (q : one B mo s = .ok s2) : (s2.at_ ≤ k → one B' mo s = .ok s2) ∧ (k = 8 * B'.length → s.at_ ≤ k → k < s2.at_ → one B' mo s = .error 2) ∧ s.at_ ≤ s2.at_ := by
  have h0 := h.2
  by_cases hc : 0 < s.copies
  · unfold one at q ⊢; rw [if_pos hc] at q ⊢
    have hat := put_at q
    replace hat : s2.at_ = s.at_ := hat
    exact ⟨fun _ => q, fun _ _ _ => by omega, by omega⟩
  by_cases hk : s.kind = -1
  · rw [one_b hc hk] at q; rw [one_b hc hk]; exact begin_same h q
  by_cases hk0 : s.kind = 0
  · by_cases hl : s.left = 0
    · rw [one_l0 hc hk hk0 hl] at q; rw [one_l0 hc hk hk0 hl]; cases q
      exact ⟨fun _ => rfl, fun _ h1 h2 => by simp only at h2; omega, Nat.le_refl _⟩
    · by_cases hx : 8 * B.length < s.at_ + 8
      · rw [one_ls hc hk hk0 hl hx] at q; cases q
      · rw [one_lp hc hk hk0 hl (by omega)] at q
        have hat := put_at q
        replace hat : s2.at_ = s.at_ + 8 := hat
        refine ⟨fun hk2 => ?_, fun he ha hk2 => one_ls hc hk hk0 hl (by omega), by omega⟩
        rw [one_lp hc hk hk0 hl (by omega), numL_same h _ _ (by omega)]; exact q
  · rw [one_c hc hk hk0] at q; rw [one_c hc hk hk0]; exact coded_same h q
theorem runs_same {mo : Int} {s : St} {o : Oc} (h : Same B B' k) (q : Runs B mo s o) : ∀ x n, o = .ok (x, n) → ∃ z : Nat, n = (z + 7) / 8 ∧ s.at_ ≤ z ∧ (z ≤ k → Runs B' mo s (.ok (x, n))) ∧ (k = 8 * B'.length → s.at_ ≤ k → k < z → Runs B' mo s (.error 2)) := by
  induction q with
  | done he => intro x n e; cases e; exact ⟨_, rfl, Nat.le_refl _, fun _ => .done he, fun _ _ _ => by omega⟩
  | step h1 h2 h3 ih =>
    intro x n e
    obtain ⟨z, z1, z2, z3, z4⟩ := ih x n e
    obtain ⟨o1, o2, o3⟩ := one_same h h2
    rename_i s1 s2 _
    refine ⟨z, z1, by omega, fun hk => .step h1 (o1 (by omega)) (z3 hk), fun he ha hk => ?_⟩
    by_cases hc : k < s2.at_
    · exact .fail h1 (o2 he ha hc)
    · exact .step h1 (o1 (by omega)) (z4 he (by omega) hk)
  | fail _ _ => intro x n e; cases e
end
theorem same_take {B t : List Int} {n : Nat} (hn : n ≤ B.length) : Same B (B.take n ++ t) (8 * n) := by
  refine ⟨fun i hi => ?_, by rw [List.length_append, List.length_take]; omega⟩
  unfold bitL
  have h1 : i / 8 < n := by omega
  have : (B.take n ++ t).getD (i / 8) 0 = B.getD (i / 8) 0 := by
    rw [List.getD_eq_getElem?_getD, List.getElem?_append_left (by rw [List.length_take]; omega), List.getElem?_take_of_lt h1, ← List.getD_eq_getElem?_getD]
  rw [this]
/-- What is said of cuts. -/
theorem res_cuts {B t : List Int} {mo : Int} {q : List Int × Int × Int} {c : Nat} (hB : Byt B) (hm : 0 ≤ mo) (h : Res B mo q) (he : q.2.2 = 0) : ∃ n : Nat, q.2.1 = (n : Int) ∧ n ≤ B.length ∧ 1 ≤ n ∧ Res (B.take n ++ t) mo q ∧ (c < n → Res (B.take c) mo ([], 0, 2)) := by
  rcases h with ⟨h, _⟩ | ⟨_, o, hr, rfl⟩
  · omega
  cases o with
  | error e => exact (runs_nz hr rfl he).elim
  | ok o =>
    obtain ⟨x, n⟩ := o
    have hq := runs_room hB hr (start_ok hm) x n rfl
    obtain ⟨z, z1, z2, z3, _⟩ := runs_same (same_take (t := t) hq.2.1) hr x n rfl
    have hpos : 1 ≤ n := by
      cases hr with
      | done h => cases h
      | step h1 h2 h3 =>
        rename_i s'
        obtain ⟨z', y1, y2, _⟩ := runs_same (same_take (t := t) hq.2.1) h3 x n rfl
        have hb : begin_ B start = .ok s' := by rw [← one_b (mo := mo) (by decide) rfl]; exact h2
        have : 1 ≤ s'.at_ := by
          have hsa : start.at_ = 0 := rfl
          unfold begin_ at hb
          split at hb
          · cases hb
          split at hb
          · split at hb
            · cases hb
            split at hb
            · cases hb; show 1 ≤ alg (start.at_ + 3) + 32; omega
            · cases hb
          split at hb
          · cases hb; show 1 ≤ start.at_ + 3; omega
          split at hb
          · split at hb
            · cases hb
            · rename_i a l d ht; cases hb; have := (told_good ht).2.2.2.2.1; show 1 ≤ a; omega
          · cases hb
        omega
    refine ⟨n, rfl, hq.2.1, hpos, .inr ⟨hm, _, z3 (by omega), rfl⟩, fun hc => ?_⟩
    have hs := same_take (B := B) (t := []) (n := c) (by omega)
    rw [List.append_nil] at hs
    obtain ⟨z', y1, y2, _, y4⟩ := runs_same hs hr x n rfl
    exact .inr ⟨hm, .error 2, y4 (by rw [List.length_take]; omega) (Nat.zero_le _) (by omega), rfl⟩
end Go.InfP

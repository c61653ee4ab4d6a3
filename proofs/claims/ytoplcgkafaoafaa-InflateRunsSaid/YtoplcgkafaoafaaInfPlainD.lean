/-
  Rows that are told by their distance: how they are written, how they are read.
-/
import Derived.Test.YtoplcgkafaoafaaM49
namespace Go.BitP
set_option linter.unusedVariables false
set_option linter.unusedSimpArgs false
theorem bit_set {out : List Int} {j p : Nat} {c : Int} (hB : Byt out) (hj : j < out.length) (hp : p < 8) (hb : 0 ≤ c ∧ c ≤ 1) (hz : bitL out (8 * j + p) = 0) : (∀ i, bitL (out.set j (orB (out.getD j 0) c p)) i = if i = 8 * j + p then c else bitL out i) ∧ Byt (out.set j (orB (out.getD j 0) c p)) := by
  have hx := hB.get j
  unfold bitL at hz
  rw [show (8 * j + p) / 8 = j by omega, show (8 * j + p) % 8 = p by omega] at hz
  obtain ⟨x, hxe⟩ : ∃ x : Nat, out.getD j 0 = (x : Int) := ⟨(out.getD j 0).toNat, by omega⟩
  obtain ⟨c, rfl⟩ : ∃ c' : Nat, c = (c' : Int) := ⟨c.toNat, by omega⟩
  rw [hxe] at hz hx
  have ez : ∀ q : Nat, (x : Int) / 2 ^ q % 2 = ((x / 2 ^ q % 2 : Nat) : Int) := fun q => by simp
  rw [ez] at hz
  have hor : orB (out.getD j 0) (c : Int) p = ((x ||| c * 2 ^ p : Nat) : Int) := by rw [hxe]; simp only [orB, Int.toNat_natCast]
  rw [hor]
  refine ⟨fun i => ?_, fun y hy => ?_⟩
  · unfold bitL
    simp only [List.getD_eq_getElem?_getD, List.getElem?_set]
    by_cases hi : j = i / 8
    · rw [if_pos hi, if_pos hj]
      simp only [Option.getD_some]
      have e3 : ((x ||| c * 2 ^ p : Nat) : Int) / 2 ^ (i % 8) % 2 = (((x ||| c * 2 ^ p) / 2 ^ (i % 8) % 2 : Nat) : Int) := by simp
      rw [e3, lor_bit (by omega) (by omega)]
      by_cases hq : i % 8 = p
      · rw [if_pos hq, if_pos (by omega)]
      · rw [if_neg hq, if_neg (by omega), ← hi]
        rw [List.getD_eq_getElem?_getD] at hxe
        rw [hxe, ez]
    · rw [if_neg hi, if_neg (by omega)]
  · rcases List.mem_or_eq_of_mem_set hy with hy | rfl
    · exact hB y hy
    · have := lor_lt (x := x) (b := c) (p := p) (by omega) (by omega) hp
      omega
/-- Bits that are laid into bytes, one after another. -/
structure Po (bs : List Int) (i : Nat) (o : List Int) : Prop where
  len : o.length = (bs.length + 7) / 8
  byt : Byt o
  get : ∀ k, k < i → bitL o k = bs.getD k 0
  zero : ∀ k, i ≤ k → bitL o k = 0
theorem Po.zero_ (bs : List Int) : Po bs 0 (List.replicate ((bs.length + 7) / 8) 0) := ⟨by simp, fun x hx => by rw [List.eq_of_mem_replicate hx]; omega, fun k h => by omega, fun k _ => by
  unfold bitL
  have : (List.replicate ((bs.length + 7) / 8) (0 : Int)).getD (k / 8) 0 = 0 := by
    rw [List.getD_eq_getElem?_getD, List.getElem?_replicate]
    split <;> rfl
  rw [this]; simp⟩
theorem Po.step {bs o : List Int} {i : Nat} (h : Po bs i o) (hi : i < bs.length) (hb : 0 ≤ bs.getD i 0 ∧ bs.getD i 0 ≤ 1) : Po bs (i + 1) (o.set (i / 8) (orB (o.getD (i / 8) 0) (bs.getD i 0) (i % 8))) := by
  have hl := h.len
  obtain ⟨h1, h2⟩ := bit_set (j := i / 8) (p := i % 8) h.byt (by omega) (by omega) hb (h.zero _ (by omega))
  refine ⟨by simp [hl], h2, fun k hk => ?_, fun k hk => ?_⟩
  · rw [h1]
    by_cases e : k = i
    · rw [if_pos (by omega), e]
    · rw [if_neg (by omega)]; exact h.get k (by omega)
  · rw [h1, if_neg (by omega)]; exact h.zero k (by omega)
end Go.BitP
namespace Go.InfP
open Go.BitP Go.HuffP
set_option linter.unusedVariables false
set_option linter.unusedSimpArgs false
def fxX (s : Int) : Int := if 280 ≤ s then 192 + s - 280 else if 256 ≤ s then s - 256 else if 144 ≤ s then 400 + s - 144 else 48 + s
def fxN (s : Int) : Nat := if 280 ≤ s then 8 else if 256 ≤ s then 7 else if 144 ≤ s then 9 else 8
theorem fxN_le (s : Int) : 7 ≤ fxN s ∧ fxN s ≤ 9 := by unfold fxN; split <;> (try split) <;> (try split) <;> omega
theorem fx_lens : (List.range 288).all (fun k => decide (fixL.getD k 0 = (fxN (k : Nat) : Int))) = true := by kernel_rfl
theorem fx_len {k : Nat} (h : k < 288) : fixL.getD k 0 = (fxN (k : Int) : Int) := by
  have := List.all_eq_true.1 fx_lens k (List.mem_range.2 h)
  simpa using this
/-- How many of a length stand ahead. -/
theorem fx_cls : ∀ k : Nat, k ≤ 288 → ((cls (fixL.take k) 7).length = (if k ≤ 256 then 0 else if k ≤ 280 then k - 256 else 24)) ∧ ((cls (fixL.take k) 8).length = (if k ≤ 144 then k else if k ≤ 280 then 144 else k - 136)) ∧ ((cls (fixL.take k) 9).length = (if k ≤ 144 then 0 else if k ≤ 256 then k - 144 else 112)) := by
  intro k
  induction k with
  | zero => intro _; simp [cls_zero]
  | succ k ih =>
    intro hk
    obtain ⟨h1, h2, h3⟩ := ih (by omega)
    have hlt : k < fixL.length := by rw [fixL_len]; omega
    have hg : fixL[k] = (fxN (k : Int) : Int) := by
      rw [← fx_len (by omega)]
      simp [List.getD_eq_getElem?_getD, hlt]
    have key : ∀ n : Nat, (cls (fixL.take (k + 1)) n).length = (cls (fixL.take k) n).length + (if fxN (k : Int) = n then 1 else 0) := by
      intro n
      rw [cls_snoc hlt, hg, List.length_append]
      by_cases e : fxN (k : Int) = n
      · rw [if_pos e, if_pos (by omega)]; rfl
      · rw [if_neg e, if_neg (by omega)]; rfl
    have hn : fxN (k : Int) = (if 280 ≤ k then 8 else if 256 ≤ k then 7 else if 144 ≤ k then 9 else 8) := by
      unfold fxN
      by_cases c1 : 280 ≤ k
      · rw [if_pos (by omega), if_pos c1]
      · rw [if_neg (by omega), if_neg c1]
        by_cases c2 : 256 ≤ k
        · rw [if_pos (by omega), if_pos c2]
        · rw [if_neg (by omega), if_neg c2]
          by_cases c3 : 144 ≤ k
          · rw [if_pos (by omega), if_pos c3]
          · rw [if_neg (by omega), if_neg c3]
    by_cases c1 : 280 ≤ k
    · rw [if_pos c1] at hn; rw [key, key, key, h1, h2, h3, hn, if_neg (show ¬ (8 : Nat) = 7 by decide), if_pos rfl, if_neg (show ¬ (8 : Nat) = 9 by decide)]; clear h1 h2 h3 key hg ih hn; (refine ⟨?_, ?_, ?_⟩ <;> (repeat' split)) <;> omega
    · rw [if_neg c1] at hn
      by_cases c2 : 256 ≤ k
      · rw [if_pos c2] at hn; rw [key, key, key, h1, h2, h3, hn, if_pos rfl, if_neg (show ¬ (7 : Nat) = 8 by decide), if_neg (show ¬ (7 : Nat) = 9 by decide)]; clear h1 h2 h3 key hg ih hn; (refine ⟨?_, ?_, ?_⟩ <;> (repeat' split)) <;> omega
      · rw [if_neg c2] at hn
        by_cases c3 : 144 ≤ k
        · rw [if_pos c3] at hn; rw [key, key, key, h1, h2, h3, hn, if_neg (show ¬ (9 : Nat) = 7 by decide), if_neg (show ¬ (9 : Nat) = 8 by decide), if_pos rfl]; clear h1 h2 h3 key hg ih hn; (refine ⟨?_, ?_, ?_⟩ <;> (repeat' split)) <;> omega
        · rw [if_neg c3] at hn; rw [key, key, key, h1, h2, h3, hn, if_neg (show ¬ (8 : Nat) = 7 by decide), if_pos rfl, if_neg (show ¬ (8 : Nat) = 9 by decide)]; clear h1 h2 h3 key hg ih hn; (refine ⟨?_, ?_, ?_⟩ <;> (repeat' split)) <;> omega
theorem fx_zero (n : Nat) (hn : n < 7) (h1 : 1 ≤ n) : (cls fixL n) = [] := by
  cases h : cls fixL n with
  | nil => rfl
  | cons x l =>
    exfalso
    have hx : x ∈ cls fixL n := by rw [h]; exact List.mem_cons_self ..
    obtain ⟨k1, k2, k3⟩ := cls_mem.1 hx
    rw [fixL_len] at k2
    rw [fx_len k2] at k3
    have := fxN_le ((x.toNat : Nat) : Int)
    omega
theorem fx_base : base fixL 7 = 0 ∧ base fixL 8 = 48 ∧ base fixL 9 = 400 := by
  have hc := fx_cls 288 (Nat.le_refl _)
  rw [List.take_of_length_le (by rw [fixL_len]; decide)] at hc
  have z : ∀ n, n < 7 → cnt fixL n = 0 := by
    intro n hn
    unfold cnt
    by_cases e : n = 0
    · rw [if_pos e]
    · rw [if_neg e, fx_zero n hn (by omega)]; rfl
  have c7 : cnt fixL 7 = 24 := by unfold cnt; rw [if_neg (by decide), hc.1]; rfl
  have c8 : cnt fixL 8 = 152 := by unfold cnt; rw [if_neg (by decide), hc.2.1]; rfl
  have b7 : base fixL 7 = 0 := by simp only [base]; rw [z 0 (by decide), z 1 (by decide), z 2 (by decide), z 3 (by decide), z 4 (by decide), z 5 (by decide), z 6 (by decide)]; rfl
  have b8 : base fixL 8 = 48 := by rw [show base fixL 8 = 2 * (base fixL 7 + cnt fixL 7) from rfl, b7, c7]; rfl
  exact ⟨b7, b8, by rw [show base fixL 9 = 2 * (base fixL 8 + cnt fixL 8) from rfl, b8, c8]; rfl⟩
theorem fx_at {s : Int} (h : 0 ≤ s ∧ s < 288) : lkW fixL s = fxX s ∧ (lkN fixL s).toNat = fxN s ∧ lkB fixL s = true := by
  have hV := (newE_vl fixL_ok).1
  obtain ⟨p1, p2⟩ := pf_ok hV h.1 (by rw [fixL_len]; omega)
  have hl := fx_len (k := s.toNat) (by omega)
  rw [Int.toNat_of_nonneg h.1] at hl
  have hle := fxN_le s
  rw [hl] at p1 p2
  have hb : lkB fixL s = true := by rw [p1]; exact decide_eq_true (by omega)
  refine ⟨?_, by rw [p2]; simp, hb⟩
  have hlen : lenOf fixL s.toNat = fxN s := by unfold lenOf; rw [hl]; simp
  have hw : lkW fixL s = wordOf fixL s.toNat := by
    unfold lkW
    rw [if_pos ⟨h.1, by rw [fixL_len]; omega⟩]
    unfold wd
    rw [if_pos (by rw [hlen]; omega)]
  rw [hw]
  unfold wordOf
  rw [hlen]
  obtain ⟨c7, c8, c9⟩ := fx_cls s.toNat (by omega)
  obtain ⟨b7, b8, b9⟩ := fx_base
  unfold fxN fxX
  by_cases c1 : 280 ≤ s
  · rw [if_pos c1, if_pos c1, b8, c8]; clear c7 c8 c9; (repeat' split) <;> omega
  · rw [if_neg c1, if_neg c1]
    by_cases c2 : 256 ≤ s
    · rw [if_pos c2, if_pos c2, b7, c7]; clear c7 c8 c9; (repeat' split) <;> omega
    · rw [if_neg c2, if_neg c2]
      by_cases c3 : 144 ≤ s
      · rw [if_pos c3, if_pos c3, b9, c9]; clear c7 c8 c9; (repeat' split) <;> omega
      · rw [if_neg c3, if_neg c3, b8, c8]; clear c7 c8 c9; (repeat' split) <;> omega
theorem fd_all : ∀ k : Nat, k < 32 → lkW fixD k = k ∧ lkN fixD k = 5 ∧ lkB fixD k = true := by decide +kernel
theorem fd_at {s : Int} (h : 0 ≤ s ∧ s < 32) : lkW fixD s = s ∧ (lkN fixD s).toNat = 5 ∧ lkB fixD s = true := by
  have := fd_all s.toNat (by omega)
  rw [Int.toNat_of_nonneg h.1] at this
  refine ⟨this.1, by rw [this.2.1]; rfl, this.2.2⟩
theorem fxX_le {s : Int} (h : 0 ≤ s ∧ s < 288) : 0 ≤ fxX s ∧ fxX s < 512 := by unfold fxX; split <;> (try split) <;> (try split) <;> omega
/-- Bytes that hold bits. -/
structure Pq (bs o : List Int) : Prop where
  byt : Byt o
  len : bs.length ≤ 8 * o.length
  get : ∀ i, i < bs.length → bitL o i = bs.getD i 0
theorem Po.pq {bs o : List Int} (h : Po bs bs.length o) : Pq bs o := ⟨h.byt, by have := h.len; omega, h.get⟩
section
variable {bs o u w r out : List Int} {mo s y d : Int} {z : St}
theorem pq_at (h : Pq bs o) (e : bs = u ++ w ++ r) : (∀ i, i < w.length → bitL o (u.length + i) = w.getD i 0) ∧ u.length + w.length ≤ 8 * o.length := by
  have hl := h.len
  have hbl : bs.length = u.length + w.length + r.length := by rw [e]; simp only [List.length_append]
  refine ⟨fun i hi => ?_, by omega⟩
  rw [h.get _ (by omega), e, List.append_assoc, getD_app2, getD_app _ _ _ hi]
theorem sym_wb {ls : List Int} (hE : newE ls = 0) (h0 : 0 ≤ s) (h1 : s < ls.length) (hb : lkB ls s = true) (h : Pq bs o) (e : bs = u ++ wb ls s ++ r) : sym ls o u.length = .ok (s, (u ++ wb ls s).length) := by
  obtain ⟨k1, k2⟩ := pq_at h e
  unfold sym
  rw [tk_word hE h0 h1 hb k1 k2, List.length_append]
/-- Within the block of the fixed codes. -/
structure Rd (o : List Int) (mo : Int) (z : St) (a : Nat) (out : List Int) : Prop where
  goes : Goes o mo start z
  at_ : z.at_ = a
  out : z.out = out
  kind : z.kind = 1
  copies : z.copies = 0
  ended : z.ended = false
  last : z.last = true
  lits : z.lits = fixL
  dist : z.dist = fixD
theorem rd_begin (h : Pq bs o) (e : bs = lowB 3 3 ++ r) : ∃ z, Rd o mo z 3 [] := by
  obtain ⟨k1, k2⟩ := pq_at (u := []) (w := lowB 3 3) (r := r) h (by rw [e]; rfl)
  have e0 := k1 0 (by decide)
  have e1 := k1 1 (by decide)
  have e2 := k1 2 (by decide)
  simp only [List.length_nil, Nat.zero_add] at e0 e1 e2
  have d0 : (lowB 3 3).getD 0 0 = 1 := rfl
  have d1 : (lowB 3 3).getD 1 0 = 1 := rfl
  have d2 : (lowB 3 3).getD 2 0 = 0 := rfl
  have hl3 : (lowB 3 3).length = 3 := rfl
  rw [List.length_nil, hl3] at k2
  have n1 : numL o start.at_ 1 = 1 := by show numL o 0 1 = 1; rw [numL_one, e0, d0]
  have n2 : numL o (start.at_ + 1) 2 = 1 := by
    show numL o 1 2 = 1
    simp only [numL]
    rw [show 1 + 0 = 1 from rfl, show 1 + 1 = 2 from rfl, e1, e2, d1, d2]
    rfl
  have hb := beg_f (B := o) (s := start) (by show 0 + 3 ≤ _; omega) n2
  have h1 := (one_b (B := o) (mo := mo) (s := start) (by decide) rfl).trans hb
  refine ⟨_, Goes.one rfl h1, rfl, rfl, rfl, rfl, rfl, ?_, rfl, rfl⟩
  show decide (numL o start.at_ 1 = 1) = true
  rw [n1]; rfl
theorem Rd.one (h : Rd o mo z u.length out) : InfP.one o mo z = coded o mo z := one_c (by rw [h.copies]; omega) (by rw [h.kind]; decide) (by rw [h.kind]; decide)
theorem rd_lit (h : Pq bs o) (hz : Rd o mo z u.length out) (hy : 0 ≤ y ∧ y < 256) (e : bs = u ++ wb fixL y ++ r) (hm : (out.length : Int) < mo) : ∃ z', Rd o mo z' (u ++ wb fixL y).length (out ++ [y]) := by
  have hs := sym_wb fixL_ok hy.1 (by rw [fixL_len]; omega) (fx_at (s := y) (by omega)).2.2 h e
  rw [← hz.at_, ← hz.lits] at hs
  have h1 := hz.one.trans ((cod_put hs hy.2).trans (put_yes (by show (z.out.length : Int) < mo; rw [hz.out]; exact hm)))
  exact ⟨_, ⟨hz.goes.next hz.ended h1, by rw [hz.lits], by show z.out ++ [y] = _; rw [hz.out], hz.kind, hz.copies, hz.ended, hz.last, hz.lits, hz.dist⟩⟩
theorem rd_head (r : List Int) (h : Pq bs o) : ∀ (l : List Int) {u out : List Int} {z : St}, Rd o mo z u.length out → (∀ y ∈ l, 0 ≤ y ∧ y < 256) → bs = u ++ HuffP.bits fixL l ++ r → (out.length : Int) + l.length ≤ mo → ∃ z', Rd o mo z' (u ++ HuffP.bits fixL l).length (out ++ l) := by
  intro l
  induction l with
  | nil => intro u out z hz _ _ _; exact ⟨z, by simpa [HuffP.bits] using hz⟩
  | cons y l ih =>
    intro u out z hz hl e hm
    have hbc : HuffP.bits fixL (y :: l) = wb fixL y ++ HuffP.bits fixL l := by simp [HuffP.bits]
    have hm2 : (out.length : Int) + (l.length + 1) ≤ mo := by simpa using hm
    obtain ⟨z1, h1⟩ := rd_lit (r := HuffP.bits fixL l ++ r) h hz (hl y (List.mem_cons_self ..)) (by rw [e, hbc]; simp) (by omega)
    obtain ⟨z2, h2⟩ := ih h1 (fun x hx => hl x (List.mem_cons_of_mem _ hx)) (by rw [e, hbc]; simp) (by simp; omega)
    refine ⟨z2, ?_⟩
    rw [hbc]
    simpa using h2
/-- Bytes that are found again. -/
def cpy (d : Nat) : Nat → List Int → List Int
  | 0, l => l
  | k + 1, l => cpy d k (l ++ [l.getD (l.length - d) 0])
theorem cpy_len (d : Nat) : ∀ (k : Nat) (l : List Int), (cpy d k l).length = l.length + k
  | 0, l => rfl
  | k + 1, l => by simp only [cpy]; rw [cpy_len d k]; simp; omega
theorem cpy_succ (d : Nat) : ∀ (k : Nat) (l : List Int), cpy d (k + 1) l = cpy d k l ++ [(cpy d k l).getD ((cpy d k l).length - d) 0]
  | 0, l => rfl
  | k + 1, l => by rw [show cpy d (k + 1 + 1) l = cpy d (k + 1) (l ++ [l.getD (l.length - d) 0]) from rfl, cpy_succ d k]; rfl
theorem go_copies {o : List Int} {mo : Int} : ∀ (n : Nat) {z : St}, z.copies = n → z.ended = false → (z.out.length : Int) + n ≤ mo → ∃ z', Goes o mo z z' ∧ z'.at_ = z.at_ ∧ z'.out = cpy z.far n z.out ∧ z'.kind = z.kind ∧ z'.copies = 0 ∧ z'.ended = false ∧ z'.last = z.last ∧ z'.lits = z.lits ∧ z'.dist = z.dist := by
  intro n
  induction n with
  | zero => intro z hc he hm; exact ⟨z, Goes.refl _ _ _, rfl, rfl, rfl, hc, he, rfl, rfl, rfl⟩
  | succ n ih =>
    intro z hc he hm
    have h1 := one_cy (B := o) (mo := mo) (s := z) (by omega) (by omega)
    obtain ⟨z', g, a1, a2, a3, a4, a5, a6, a7, a8⟩ := ih (z := { z with copies := z.copies - 1, out := z.out ++ [z.out.getD (z.out.length - z.far) 0] }) (by show z.copies - 1 = n; omega) he (by simp; omega)
    exact ⟨z', (Goes.one he h1).trans g, a1, a2, a3, a4, a5, a6, a7, a8⟩
/-- A row that is told: its words. -/
def rowB (n d : Int) : List Int := wb fixL (254 + n) ++ wb fixD (d - 1)
theorem row_go (h : Pq bs o) (hz : Rd o mo z u.length out) (n : Int) (hn : 3 ≤ n ∧ n ≤ 10) (hd : 1 ≤ d ∧ d ≤ 4) (e : bs = u ++ rowB n d ++ r) : sym z.lits o z.at_ = .ok (254 + n, (u ++ wb fixL (254 + n)).length) ∧ lenE o (254 + n - 257) (u ++ wb fixL (254 + n)).length = .ok (n, (u ++ wb fixL (254 + n)).length) ∧ awayE o z.dist (u ++ wb fixL (254 + n)).length = .ok (d, (u ++ rowB n d).length) := by
  have hs := sym_wb (u := u) (r := wb fixD (d - 1) ++ r) fixL_ok (s := 254 + n) (by omega) (by rw [fixL_len]; omega) (fx_at (s := 254 + n) (by omega)).2.2 h (by rw [e]; simp [rowB])
  have hs2 := sym_wb (u := u ++ wb fixL (254 + n)) (r := r) fixD_ok (s := d - 1) (by omega) (by rw [fixD_len]; omega) (fd_at (s := d - 1) (by omega)).2.2 h (by rw [e]; simp [rowB])
  obtain ⟨_, k2⟩ := pq_at (u := u) (w := rowB n d) (r := r) h e
  have hrl : (rowB n d).length = (wb fixL (254 + n)).length + (wb fixD (d - 1)).length := by simp [rowB]
  refine ⟨by rw [hz.at_, hz.lits]; exact hs, ?_, ?_⟩
  · rw [len_few (by omega) (by omega) (by rw [List.length_append]; omega)]
    rw [show 3 + (254 + n - 257) = n by omega]
  · rw [hz.dist, away_few hs2 (by omega) (by omega) (by simp only [List.length_append]; omega), show 1 + (d - 1) = d by omega]
    simp [rowB, Nat.add_assoc]
theorem rd_row (h : Pq bs o) (hz : Rd o mo z u.length out) (n : Int) (hn : 3 ≤ n ∧ n ≤ 10) (hd : 1 ≤ d ∧ d ≤ 4) (e : bs = u ++ rowB n d ++ r) (hdl : d ≤ out.length) (hm : (out.length : Int) + n ≤ mo) : ∃ z', Rd o mo z' (u ++ rowB n d).length (cpy d.toNat n.toNat out) := by
  obtain ⟨h1, h2, h3⟩ := row_go h hz n hn hd e
  have h4 := hz.one.trans (cod_y h1 (by omega) h2 h3 (by rw [hz.out]; exact hdl))
  obtain ⟨z', g, a1, a2, a3, a4, a5, a6, a7, a8⟩ := go_copies (o := o) (mo := mo) n.toNat (z := { z with at_ := (u ++ rowB n d).length, copies := n.toNat, far := d.toNat }) rfl hz.ended (by show (z.out.length : Int) + (n.toNat : Nat) ≤ mo; rw [hz.out]; omega)
  exact ⟨z', (hz.goes.next hz.ended h4).trans g, a1, by rw [a2]; show cpy d.toNat n.toNat z.out = _; rw [hz.out], a3.trans hz.kind, a4, a5, a6.trans hz.last, a7.trans hz.lits, a8.trans hz.dist⟩
theorem rd_bad (h : Pq bs o) (hz : Rd o mo z u.length out) (n : Int) (hn : 3 ≤ n ∧ n ≤ 10) (hd : 1 ≤ d ∧ d ≤ 4) (e : bs = u ++ rowB n d ++ r) (hdl : (out.length : Int) < d) : Runs o mo start (.error 4) := by
  obtain ⟨h1, h2, h3⟩ := row_go h hz n hn hd e
  exact hz.goes.fail hz.ended (hz.one.trans (cod_n h1 (by omega) h2 h3 (by rw [hz.out]; omega)))
theorem rd_end (h : Pq bs o) (hz : Rd o mo z u.length out) (e : bs = u ++ wb fixL 256 ++ r) : ∃ n, Runs o mo start (.ok (out, n)) := by
  have hs := sym_wb fixL_ok (s := 256) (by omega) (by rw [fixL_len]; omega) (fx_at (s := 256) (by omega)).2.2 h e
  rw [← hz.at_, ← hz.lits] at hs
  have h1 := hz.one.trans (cod_end hs rfl)
  have := hz.goes.next hz.ended h1 _ (.done hz.last)
  rw [show ({ z with at_ := (u ++ wb z.lits 256).length, kind := -1, ended := z.last } : St).out = out from hz.out] at this
  exact ⟨_, this⟩
end
/-- The rows, one after another. -/
def rowsB (d : Int) : List Int → List Int
  | [] => []
  | m :: l => rowB (3 + m % 8) d ++ rowsB d l
def rowsO (d : Int) : List Int → List Int → List Int
  | [], out => out
  | m :: l, out => rowsO d l (cpy d.toNat (3 + m % 8).toNat out)
theorem rd_rows {bs o r : List Int} {mo d : Int} (h : Pq bs o) (hd : 1 ≤ d ∧ d ≤ 4) : ∀ (l : List Int) {u out : List Int} {z : St}, Rd o mo z u.length out → bs = u ++ rowsB d l ++ r → d ≤ out.length → (out.length : Int) + 10 * l.length ≤ mo → ∃ z', Rd o mo z' (u ++ rowsB d l).length (rowsO d l out) := by
  intro l
  induction l with
  | nil => intro u out z hz _ _ _; exact ⟨z, by simpa [rowsB, rowsO] using hz⟩
  | cons m l ih =>
    intro u out z hz e hdl hm
    have hm2 : (out.length : Int) + 10 * (l.length + 1) ≤ mo := by simpa using hm
    obtain ⟨z1, h1⟩ := rd_row (r := rowsB d l ++ r) h hz (3 + m % 8) (by omega) hd (by rw [e]; simp [rowsB]) hdl (by omega)
    have hcl := cpy_len d.toNat (3 + m % 8).toNat out
    obtain ⟨z2, h2⟩ := ih h1 (by rw [e]; simp [rowsB]) (by omega) (by omega)
    exact ⟨z2, by simpa [rowsB, rowsO] using h2⟩
/-- What is written. -/
def runsB (head : List Int) (d : Int) (l : List Int) : List Int := lowB 3 3 ++ HuffP.bits fixL head ++ rowsB d l
theorem runs_good {head l o : List Int} {d : Int} (hh : ∀ y ∈ head, 0 ≤ y ∧ y < 256) (hl : head.length ≤ 200) (hk : l.length ≤ 20) (hd : 1 ≤ d ∧ d ≤ 4) (hdl : l = [] ∨ d ≤ head.length) (h : Pq (runsB head d l ++ wb fixL 256) o) : ∃ n, Res o 65536 (rowsO d l head, n, 0) := by
  obtain ⟨z0, h0⟩ := rd_begin (mo := 65536) (r := HuffP.bits fixL head ++ (rowsB d l ++ wb fixL 256)) h (by simp [runsB])
  obtain ⟨z1, h1⟩ := rd_head (mo := 65536) (rowsB d l ++ wb fixL 256) h head (u := lowB 3 3) h0 hh (by simp [runsB]) (by simp; omega)
  have h1' : Rd o 65536 z1 (lowB 3 3 ++ HuffP.bits fixL head).length head := by simpa using h1
  have key : ∃ z2, Rd o 65536 z2 (runsB head d l).length (rowsO d l head) := by
    rcases hdl with rfl | hdl
    · exact ⟨z1, by simpa [runsB, rowsB, rowsO] using h1'⟩
    · obtain ⟨z2, h2⟩ := rd_rows (r := wb fixL 256) h hd l h1' (by simp [runsB]) hdl (by omega)
      exact ⟨z2, h2⟩
  obtain ⟨z2, h2⟩ := key
  obtain ⟨n, hr⟩ := rd_end (r := []) h h2 (by simp)
  exact ⟨n, .inr ⟨by decide, _, hr, rfl⟩⟩
theorem runs_bad {head o : List Int} {d m : Int} (hh : ∀ y ∈ head, 0 ≤ y ∧ y < 256) (hl : head.length ≤ 200) (hd : 1 ≤ d ∧ d ≤ 4) (hdl : (head.length : Int) < d) (h : Pq (runsB head d [m]) o) : Res o 65536 ([], 0, 4) := by
  obtain ⟨z0, h0⟩ := rd_begin (mo := 65536) (r := HuffP.bits fixL head ++ rowsB d [m]) h (by simp [runsB])
  obtain ⟨z1, h1⟩ := rd_head (mo := 65536) (rowsB d [m]) h head (u := lowB 3 3) h0 hh (by simp [runsB]) (by simp; omega)
  have h1' : Rd o 65536 z1 (lowB 3 3 ++ HuffP.bits fixL head).length head := by simpa using h1
  have := rd_bad (r := []) h h1' (3 + m % 8) (by omega) hd (by simp [runsB, rowsB]) hdl
  exact .inr ⟨by decide, _, this, rfl⟩
end Go.InfP
namespace Go.InfP
open Go.BitP Go.HuffP
set_option linter.unusedVariables false
theorem fxX_1 {s : Int} (h : 280 ≤ s) : fxX s = 192 + s - 280 := if_pos h
theorem fxX_2 {s : Int} (h : 256 ≤ s ∧ s < 280) : fxX s = s - 256 := by unfold fxX; rw [if_neg (by omega)]; exact if_pos h.1
theorem fxX_3 {s : Int} (h : 144 ≤ s ∧ s < 256) : fxX s = 400 + s - 144 := by unfold fxX; rw [if_neg (by omega), if_neg (by omega)]; exact if_pos h.1
theorem fxX_4 {s : Int} (h : s < 144) : fxX s = 48 + s := by unfold fxX; rw [if_neg (by omega), if_neg (by omega)]; exact if_neg (by omega)
theorem fxN_9 {s : Int} (h : 144 ≤ s ∧ s < 256) : fxN s = 9 := by unfold fxN; rw [if_neg (by omega), if_neg (by omega)]; exact if_pos h.1
theorem fxN_7 {s : Int} (h : 256 ≤ s ∧ s < 280) : fxN s = 7 := by unfold fxN; rw [if_neg (by omega)]; exact if_pos h.1
theorem fxN_8 {s : Int} (h : s < 144 ∨ 280 ≤ s) : fxN s = 8 := by
  unfold fxN
  by_cases c : 280 ≤ s
  · exact if_pos c
  · rw [if_neg c, if_neg (by omega)]; exact if_neg (by omega)
theorem wbf_len {s : Int} (h : 0 ≤ s ∧ s < 288) : (wb fixL s).length = fxN s := by rw [wb_len]; exact (fx_at h).2.1
theorem wbf_take {s : Int} {j : Nat} (h : 0 ≤ s ∧ s < 288) (hj : j < fxN s) : (wb fixL s).take j ++ [fxX s / 2 ^ (fxN s - 1 - j) % 2] = (wb fixL s).take (j + 1) := by
  obtain ⟨h1, h2, _⟩ := fx_at h
  have := wb_take (ls := fixL) (s := s) (k := j) (by rw [h2]; exact hj)
  rw [h1, h2] at this
  exact this
theorem wbd_len {s : Int} (h : 0 ≤ s ∧ s < 32) : (wb fixD s).length = 5 := by rw [wb_len]; exact (fd_at h).2.1
theorem wbd_take {s : Int} {j : Nat} (h : 0 ≤ s ∧ s < 32) (hj : j < 5) : (wb fixD s).take j ++ [s / 2 ^ (4 - j) % 2] = (wb fixD s).take (j + 1) := by
  obtain ⟨h1, h2, _⟩ := fd_at h
  have := wb_take (ls := fixD) (s := s) (k := j) (by rw [h2]; exact hj)
  rw [h1, h2] at this
  exact this
theorem bits_next {l : List Int} {k : Nat} (h : k < l.length) : HuffP.bits fixL (l.take k) ++ wb fixL (l.getD k 0) = HuffP.bits fixL (l.take (k + 1)) := by
  rw [List.take_succ_eq_append_getElem h, bits_snoc]
  simp [List.getD_eq_getElem?_getD, h]
theorem rowsB_snoc (d : Int) : ∀ (l : List Int) (m : Int), rowsB d (l ++ [m]) = rowsB d l ++ rowB (3 + m % 8) d
  | [], m => by simp [rowsB]
  | x :: l, m => by simp only [List.cons_append, rowsB]; rw [rowsB_snoc d l m, List.append_assoc]
theorem rowsO_snoc (d : Int) : ∀ (l : List Int) (m : Int) (out : List Int), rowsO d (l ++ [m]) out = cpy d.toNat (3 + m % 8).toNat (rowsO d l out)
  | [], m, out => rfl
  | x :: l, m, out => by simp only [List.cons_append, rowsO]; exact rowsO_snoc d l m _
theorem rowsO_len (d : Int) : ∀ (l : List Int) (out : List Int), out.length ≤ (rowsO d l out).length ∧ (rowsO d l out).length ≤ out.length + 10 * l.length
  | [], out => ⟨Nat.le_refl _, Nat.le_refl _⟩
  | x :: l, out => by
    have h := rowsO_len d l (cpy d.toNat (3 + x % 8).toNat out)
    have hc := cpy_len d.toNat (3 + x % 8).toNat out
    simp only [rowsO, List.length_cons]
    omega
theorem take_next {l : List Int} {i : Nat} (h : i < l.length) : l.take (i + 1) = l.take i ++ [l.getD i 0] := by
  rw [List.take_succ_eq_append_getElem h]
  simp [List.getD_eq_getElem?_getD, h]
theorem runsB_next {B M : List Int} {d : Int} {i : Nat} (h : i < M.length) : runsB B d (M.take i) ++ wb fixL (254 + (3 + M.getD i 0 % 8)) ++ wb fixD (d - 1) = runsB B d (M.take (i + 1)) := by
  rw [take_next h]
  unfold runsB
  rw [rowsB_snoc]
  simp [rowB]
theorem rowsO_next {B M : List Int} {d : Int} {i : Nat} (h : i < M.length) : cpy d.toNat (3 + M.getD i 0 % 8).toNat (rowsO d (M.take i) B) = rowsO d (M.take (i + 1)) B := by
  rw [take_next h, rowsO_snoc]
/-- Bits. -/
def B01 (l : List Int) : Prop := ∀ x ∈ l, 0 ≤ x ∧ x ≤ 1
theorem B01.get {l : List Int} (h : B01 l) (i : Nat) : 0 ≤ l.getD i 0 ∧ l.getD i 0 ≤ 1 := by
  rw [List.getD_eq_getElem?_getD]
  cases e : l[i]? with
  | none => simp
  | some x => exact h x (List.mem_of_getElem? e)
theorem B01.app {a b : List Int} (h : B01 a) (k : B01 b) : B01 (a ++ b) := fun x hx => by
  rcases List.mem_append.1 hx with hx | hx
  · exact h x hx
  · exact k x hx
theorem low_01 (x : Int) (n : Nat) : B01 (lowB x n) := fun y hy => by
  unfold lowB at hy
  obtain ⟨i, _, rfl⟩ := List.mem_map.1 hy
  omega
theorem bits_01 (l : List Int) : B01 (HuffP.bits fixL l) := fun x hx => by
  unfold HuffP.bits at hx
  obtain ⟨s, _, hs⟩ := List.mem_flatMap.1 hx
  exact wb_01 x hs
theorem rows_01 (d : Int) : ∀ l : List Int, B01 (rowsB d l)
  | [] => fun x hx => by cases hx
  | m :: l => (B01.app (fun x hx => wb_01 x hx) (fun x hx => wb_01 x hx)).app (rows_01 d l)
theorem runs_01 (B : List Int) (d : Int) (l : List Int) : B01 (runsB B d l) := ((low_01 3 3).app (bits_01 B)).app (rows_01 d l)
theorem runs_len {B M : List Int} {d : Int} {i : Nat} (hd : 1 ≤ d ∧ d ≤ 4) (hB : B.length ≤ 200) (hM : M.length ≤ 20) : (runsB B d (M.take i)).length ≤ 4000 := by
  have h1 := bits_len (newE_vl fixL_ok).1 B
  have h2 : ∀ l : List Int, (rowsB d l).length ≤ 14 * l.length := by
    intro l
    induction l with
    | nil => exact Nat.le_refl _
    | cons m l ih =>
      simp only [rowsB, rowB, List.length_append, List.length_cons]
      have a1 := wbf_len (s := 254 + (3 + m % 8)) (by omega)
      have a2 := fxN_le (254 + (3 + m % 8))
      have a3 := wbd_len (s := d - 1) (by omega)
      omega
  have h3 := h2 (M.take i)
  have h4 : (M.take i).length ≤ 20 := by rw [List.length_take]; omega
  unfold runsB
  simp only [List.length_append, lowB_len]
  omega
end Go.InfP
namespace Go.InfP
open Go.BitP Go.HuffP
theorem kl_or (k n : Nat) (q : Prop) : (k < n ∧ q) ∨ (k < n ∧ ¬ q) ∨ ¬ k < n := by
  rcases Classical.em (k < n) with h | h
  · rcases Classical.em q with h2 | h2
    · exact .inl ⟨h, h2⟩
    · exact .inr (.inl ⟨h, h2⟩)
  · exact .inr (.inr h)
theorem cpy_zero (d : Nat) (l : List Int) : cpy d 0 l = l := rfl
theorem rowsO_zero (d : Int) (M B : List Int) : rowsO d (M.take 0) B = B := rfl
theorem runsB_zero (B : List Int) (d : Int) (M : List Int) : runsB B d (M.take 0) = lowB 3 3 ++ HuffP.bits fixL B := by
  show lowB 3 3 ++ HuffP.bits fixL B ++ rowsB d [] = _
  simp [rowsB]
end Go.InfP

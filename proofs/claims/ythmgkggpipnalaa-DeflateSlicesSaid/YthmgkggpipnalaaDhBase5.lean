/-
  Packs in memory; printed by a program of ours.
-/
import Derived.Test.YthmgkggpipnalaaSl21
import Derived.Test.YthmgkggpipnalaaM33
import Derived.Test.YthmgkggpipnalaaM31
namespace Go.Sl
set_option linter.unusedVariables false
/-- A pack: its weight, where its symbols are, how many, what they are. -/
structure Pc where
  w : Int
  p : Option Addr
  n : Nat
  c : Nat
  s : List Int
abbrev PC : Ec Pc := ⟨111, 2, fun x => [.int .i64 x.w, .slice x.p x.n x.c], ⟨0, none, 0, 0, []⟩, fun _ => rfl, fun _ => rfl⟩
/-- A slice within a row of slices. -/
structure Sx where
  p : Option Addr
  n : Nat
  c : Nat
abbrev PS : Ec Sx := ⟨109, 1, fun x => [.slice x.p x.n x.c], ⟨none, 0, 0⟩, fun _ => rfl, fun _ => rfl⟩
abbrev QS : Ec Sx := ⟨34, 1, fun x => [.slice x.p x.n x.c], ⟨none, 0, 0⟩, fun _ => rfl, fun _ => rfl⟩
/-- Rows of symbols, each read by whoever holds it. -/
def Bank (B : List Pc) : HProp := fun w0 h => sats w0 (B.map fun x => Row I3 x.p x.n x.c x.s) h
theorem Row.mono {α : Type} {c : Ec α} {p : Option Addr} {n cap : Nat} {l : List α} {w0 : World} {h h' : Hp} (hl : Hp.le h h') (hh : Row c p n cap l w0 h) : Row c p n cap l w0 h' := by
  refine ⟨hh.1, ?_⟩
  rcases hh.2 with h0 | ⟨b, o, pre, post, e1, e2, e3⟩
  · exact .inl h0
  · exact .inr ⟨b, o, pre, post, e1, hl _ _ e2, e3⟩
theorem sats_in {w0 : World} {A : HProp} : ∀ {L : List HProp} {h : Hp}, A ∈ L → sats w0 L h → ∃ h1, Hp.le h1 h ∧ A w0 h1
  | [], _, hm, _ => by simp at hm
  | B :: L, h, hm, ⟨h1, h2, d, l1, l2, p, r⟩ => by
    rcases List.mem_cons.1 hm with rfl | hm
    · exact ⟨h1, l1, p⟩
    · obtain ⟨h3, l3, q⟩ := sats_in hm r
      exact ⟨h3, Hp.le_trans l3 l2, q⟩
/-- A pack whose row is in the bank. -/
theorem bank_rd {B : List Pc} {x : Pc} (hx : x ∈ B) (w0 : World) (h : Hp) (hh : Bank B w0 h) : RdR I3 x.p x.n x.s w0 h := by
  obtain ⟨h1, l1, q⟩ := sats_in (List.mem_map.2 ⟨x, hx, rfl⟩) hh
  exact (Row.mono l1 q).rd
theorem bank_add {B : List Pc} {x : Pc} {w0 : World} {h : Hp} (hh : sats w0 [Row I3 x.p x.n x.c x.s, Bank B] h) : Bank (x :: B) w0 h := by
  obtain ⟨h1, h2, d, l1, l2, p, h3, h4, d2, l3, l4, q, _⟩ := hh
  exact ⟨h1, h2, d, l1, l2, p, sats_mono l3 q⟩
/-- Fewer of a row. -/
theorem Row.cut {α : Type} {c : Ec α} {p : Option Addr} {n cap : Nat} {l : List α} {w0 : World} {h : Hp} (k : Nat) (hk : k ≤ n) (hh : Row c p n cap l w0 h) : Row c p k cap (l.take k) w0 h := by
  obtain ⟨hl, hs⟩ := hh
  refine ⟨by rw [List.length_take]; omega, ?_⟩
  rcases hs with ⟨rfl, rfl, rfl, e⟩ | ⟨b, o, pre, post, e1, e2, e3, e4, e5, e6⟩
  · have : l = [] := List.length_eq_zero_iff.1 (by omega)
    subst this
    exact .inl ⟨rfl, by omega, rfl, by simp⟩
  · refine .inr ⟨b, o, pre, (l.drop k).flatMap c.e ++ post, e1, ?_, e3, ?_, ?_, by omega⟩
    · have e7 : l.flatMap c.e = (l.take k).flatMap c.e ++ (l.drop k).flatMap c.e := by rw [← List.flatMap_append, List.take_append_drop]
      rw [e2, e7]
      simp [List.append_assoc]
    · rw [flat_len, List.length_take]; congr 1; omega
    · rw [List.length_append, flat_len, List.length_drop, hl]
      have : (cap - k) * c.sz = (n - k) * c.sz + (cap - n) * c.sz := by rw [← Nat.add_mul]; congr 1; omega
      omega
/-- How many there are in the first slices. -/
def szs (xs : List Sx) (k : Nat) : Nat := ((xs.take k).map Sx.n).sum
theorem szs_zero (xs : List Sx) : szs xs 0 = 0 := by simp [szs]
theorem szs_succ {xs : List Sx} {k : Nat} (h : k < xs.length) : szs xs (k + 1) = szs xs k + xs[k].n := by
  unfold szs
  rw [List.take_add_one, List.getElem?_eq_getElem h, List.map_append, List.sum_append]
  simp
theorem szs_le {xs : List Sx} : ∀ {k m : Nat}, k ≤ m → m ≤ xs.length → szs xs k ≤ szs xs m := by
  intro k m hkm
  induction hkm with
  | refl => intro _; exact Nat.le_refl _
  | @step m h ih =>
    intro hm
    have h1 := ih (by omega)
    have h2 := szs_succ (xs := xs) (k := m) hm
    show szs xs k ≤ szs xs (m + 1)
    omega
theorem flat_succ {α : Type} {ls : List (List α)} {k : Nat} (h : k < ls.length) : (ls.take k).flatten ++ ls.getD k [] = (ls.take (k + 1)).flatten := by
  rw [List.take_add_one, List.getElem?_eq_getElem h, List.flatten_append]
  simp [h]
theorem fill_pc (x : Pc) : Instr.fill (fun i => some (i * 2, 2)) ((List.replicate 1 [.int .i64 0, .slice none 0 0]).flatten.toArray) [(0, .agg #[.int .i64 x.w, .slice x.p x.n x.c])] = some ([x].flatMap PC.e).toArray := by simp [Instr.fill, Value.cells, List.replicate]
/-- A pack, plainly. -/
def pk (x : Pc) : PkM.Pk := (x.w, x.s)
theorem bank_nil (w0 : World) (h : Hp) : Bank [] w0 h := trivial
/-- Leaves, and the level that they have come to: at first the same row. -/
def LL (po : Option Addr) (n co : Nat) (A0 : List Pc) (pl : Option Addr) (nl cl : Nat) (l : List Pc) : HProp := fun w0 h => (Row PC po n co A0 w0 h ∧ pl = po ∧ nl = n ∧ cl = co ∧ l = A0) ∨ sats w0 [Row PC po n co A0, Row PC pl nl cl l] h
theorem ll_start {po : Option Addr} {n co : Nat} {A0 : List Pc} {w0 : World} {h : Hp} (hh : Row PC po n co A0 w0 h) : LL po n co A0 po n co A0 w0 h := .inl ⟨hh, rfl, rfl, rfl, rfl⟩
theorem ll_row {po pl : Option Addr} {n co nl cl : Nat} {A0 l : List Pc} {w0 : World} {h : Hp} (hh : LL po n co A0 pl nl cl l w0 h) : ∃ h1, Hp.le h1 h ∧ Row PC po n co A0 w0 h1 := by
  rcases hh with ⟨hh, _⟩ | hh
  · exact ⟨h, fun _ _ e => e, hh⟩
  · exact sats_in (by simp) hh
theorem ll_lrow {po pl : Option Addr} {n co nl cl : Nat} {A0 l : List Pc} {w0 : World} {h : Hp} (hh : LL po n co A0 pl nl cl l w0 h) : ∃ h1, Hp.le h1 h ∧ Row PC pl nl cl l w0 h1 := by
  rcases hh with ⟨hh, rfl, rfl, rfl, rfl⟩ | hh
  · exact ⟨h, fun _ _ e => e, hh⟩
  · exact sats_in (by simp) hh
theorem ll_a {po pl : Option Addr} {n co nl cl : Nat} {A0 l : List Pc} (w0 : World) (h : Hp) (hh : LL po n co A0 pl nl cl l w0 h) : RdR PC po n A0 w0 h := by
  obtain ⟨h1, l1, q⟩ := ll_row hh
  exact (Row.mono l1 q).rd
theorem ll_b {po pl : Option Addr} {n co nl cl : Nat} {A0 l : List Pc} (w0 : World) (h : Hp) (hh : LL po n co A0 pl nl cl l w0 h) : RdR PC pl nl l w0 h := by
  obtain ⟨h1, l1, q⟩ := ll_lrow hh
  exact (Row.mono l1 q).rd
theorem row_cap {α : Type} {c : Ec α} {p : Option Addr} {n cap : Nat} {l : List α} {w0 : World} {h : Hp} (hh : Row c p n cap l w0 h) : n ≤ cap := by
  rcases hh.2 with ⟨_, e, e2, _⟩ | ⟨b, o, pre, post, e1, e2, e3, e4, e5, e6⟩
  · omega
  · exact e6
theorem ll_cap {po pl : Option Addr} {n co nl cl : Nat} {A0 l : List Pc} (w0 : World) (h : Hp) (hh : LL po n co A0 pl nl cl l w0 h) : nl ≤ cl := by
  obtain ⟨h1, l1, q⟩ := ll_lrow hh
  exact row_cap q
theorem ll_next {po pl pq : Option Addr} {n co nl cl nq cq : Nat} {A0 l l2 : List Pc} {w0 : World} {h : Hp} (hh : sats w0 [LL po n co A0 pl nl cl l, Row PC pq nq cq l2] h) : LL po n co A0 pq nq cq l2 w0 h := by
  obtain ⟨h1, h2, d, l1, l2', p, r⟩ := hh
  obtain ⟨h3, l3, q⟩ := ll_row p
  exact .inr ⟨h1, h2, d, l1, l2', Row.mono l3 q, r⟩
theorem star_a {po pl : Option Addr} {n co nl cl : Nat} {A0 l : List Pc} {X : HProp} (w0 : World) (h : Hp) (hh : Star [LL po n co A0 pl nl cl l, X] w0 h) : RdR PC po n A0 w0 h := by
  obtain ⟨h1, l1, p⟩ := sats_in (A := LL po n co A0 pl nl cl l) (by simp) hh
  obtain ⟨h2, l2, q⟩ := ll_row p
  exact (Row.mono (Hp.le_trans l2 l1) q).rd
theorem star_b {p : Option Addr} {n c : Nat} {o : List Pc} {X : HProp} (w0 : World) (h : Hp) (hh : Star [X, Row PC p n c o] w0 h) : RdR PC p n o w0 h := by
  obtain ⟨h1, l1, q⟩ := sats_in (A := Row PC p n c o) (by simp) hh
  exact (Row.mono l1 q).rd
theorem inv_pure {w0 w : World} {L : List HProp} {A : HProp} {p : Prop} (hi : Inv w0 L w) (hm : A ∈ L) (hA : ∀ w0 h, A w0 h → p) : p := by
  obtain ⟨F, hi2⟩ := hi.mem hm
  obtain ⟨_, hp, _⟩ := hi2.opn (K := fun _ : Unit => p) (B := fun _ => []) (fun h hh => ⟨(), hA _ _ hh, trivial⟩)
  exact hp
/-! ### What is plain about them -/
structure OkL (fr : List Int) (most : Int) : Prop where
  m1 : 1 ≤ most
  m2 : most ≤ 15
  len : fr.length ≤ 320
  fre : ∀ i, i < fr.length → 0 ≤ fr.getD i 0 ∧ fr.getD i 0 ≤ 1048576
  few : (PkM.lvs fr fr.length).length ≤ 2 ^ most.toNat
theorem shl_most0 : ∀ n : Nat, n < 16 → IntKind.i64.wrap (1 * 2 ^ (min n IntKind.i64.bits)) = ((2 ^ n : Nat) : Int) := by decide
theorem shl_most {most : Int} (h : 1 ≤ most ∧ most ≤ 15) : IntKind.i64.wrap (1 * 2 ^ (min most.toNat IntKind.i64.bits)) = ((2 ^ most.toNat : Nat) : Int) := shl_most0 _ (by omega)
theorem one_leaf {o : List Pc} {fr : List Int} (h : o.map pk = PkM.lvs fr fr.length) (h1 : (PkM.lvs fr fr.length).length = 1) : ∃ (s : Nat) (w : Int), PkM.lvs fr fr.length = [(w, [(s : Int)])] ∧ (PC.g o 0).s = [(s : Int)] ∧ PC.g o 0 ∈ o := by
  have hlen : o.length = 1 := by rw [← h, List.length_map] at h1; exact h1
  match o, hlen with
  | [x], _ =>
    have hm : pk x ∈ PkM.lvs fr fr.length := by rw [← h]; simp
    obtain ⟨i, h2, h3, h4⟩ := PkM.lvs_mem.1 hm
    refine ⟨i, fr.getD i 0, by rw [← h, ← h4]; rfl, congrArg Prod.snd h4, by simp [Ec.g]⟩
theorem rl_mem {l l' : List Pc} {n : Nat} (h : StS.Rl Pc.w PC.d l l' 0 n) (hn : l.length = n) {x : Pc} (hx : x ∈ l') : x ∈ l := by
  obtain ⟨i, hi, rfl⟩ := List.getElem_of_mem hx
  have hl := h.len
  obtain ⟨j, j1, j2, j3⟩ := h.mem i (Nat.zero_le _) (by omega)
  have e1 : l'.getD i PC.d = l'[i] := by simp [List.getD_eq_getElem?_getD, hi]
  have e2 : l.getD j PC.d = l[j]'(by omega) := by simp [List.getD_eq_getElem?_getD, show j < l.length by omega]
  rw [← e1, j3, e2]
  exact List.getElem_mem _
theorem filt_pk (l : List Pc) (c : Int) : (l.map pk).filter (fun x => decide (x.1 = c)) = (l.filter (fun x => decide (x.w = c))).map pk := by
  rw [List.filter_map]; rfl
theorem ss_of {l l' : List Pc} {n : Nat} (hn : l.length = n) (h : StS.Rl Pc.w PC.d l l' 0 n) (hs : StS.Sd Pc.w PC.d l' 0 n) : PkM.SS (l.map pk) (l'.map pk) := by
  have hl := h.len
  refine ⟨?_, fun c => by rw [filt_pk, filt_pk, h.same c]⟩
  refine List.pairwise_map.2 (List.pairwise_iff_getElem.2 (fun i j hi hj hij => ?_))
  have := hs i j (Nat.zero_le _) (Nat.le_of_lt hij) (by omega)
  simpa [List.getD_eq_getElem?_getD, hi, hj, pk] using this
theorem pc_bd {A0 l : List Pc} {j : Nat} (hA : ∀ x ∈ A0.map pk, 0 ≤ x.1 ∧ x.1 ≤ 1048576 ∧ x.2.length = 1) (hl : l.map pk = PkM.lv (A0.map pk) (j + 1)) (hj : j ≤ 14) : ∀ x ∈ l, 0 ≤ x.w ∧ x.w ≤ 17179869184 ∧ x.s.length ≤ 16384 := by
  intro x hx
  have hm : pk x ∈ PkM.lv (A0.map pk) (j + 1) := by rw [← hl]; exact List.mem_map.2 ⟨x, hx, rfl⟩
  obtain ⟨h1, h2, h3⟩ := PkM.lv_bd hA j _ hm
  have e1 : (2 : Nat) ^ j ≤ 2 ^ 14 := Nat.pow_le_pow_right (by decide) hj
  have e2 : ((2 : Int) ^ j) = ((2 ^ j : Nat) : Int) := by simp
  rw [e2] at h2
  have h1' : 0 ≤ x.w := h1
  have h2' : x.w ≤ 1048576 * ((2 ^ j : Nat) : Int) := h2
  have h3' : x.s.length ≤ 2 ^ j := h3
  refine ⟨h1', by omega, by omega⟩
theorem ig_at {s : List Int} {q : Nat} (hq : q < s.length) : I3.g s (q : Int) = s[q] := by simp [Ec.g, hq]
theorem cnt_step {L : Nat} {X s : List Int} {q : Nat} (hq : q < s.length) (h0 : 0 ≤ I3.g s (q : Int) ∧ I3.g s (q : Int) < L) : (PkM.cO L (X ++ s.take q)).set (I3.g s (q : Int)).toNat (I3.g (PkM.cO L (X ++ s.take q)) (I3.g s (q : Int)) + 1) = PkM.cO L (X ++ s.take (q + 1)) := by
  have e : I3.g s (q : Int) = s[q] := by simp [Ec.g, hq]
  have e2 : X ++ s.take (q + 1) = X ++ s.take q ++ [I3.g s (q : Int)] := by rw [List.take_add_one, List.getElem?_eq_getElem hq, e]; simp
  rw [e2, ← PkM.cO_step h0.1 h0.2]
  rfl
theorem cnt_bd {L : Nat} {X : List Int} {N : Nat} (hN : X.length ≤ N) (x : Int) : 0 ≤ I3.g (PkM.cO L X) x ∧ I3.g (PkM.cO L X) x ≤ N := by
  have h := PkM.cO_bound (L := L) (X := X) x.toNat
  have e : I3.g (PkM.cO L X) x = (PkM.cO L X).getD x.toNat 0 := rfl
  rw [e]
  omega
theorem pk_g {l : List Pc} {i : Nat} (h : i < l.length) : (l.map pk).getD i (0, []) = pk (PC.g l (i : Int)) := by
  simp [Ec.g, h]
theorem sy_next {l : List Pc} {i : Nat} (h : i < l.length) (hn : (PC.g l (i : Int)).n = (PC.g l (i : Int)).s.length) : PkM.sy (l.map pk) i ++ (PC.g l (i : Int)).s.take (PC.g l (i : Int)).n = PkM.sy (l.map pk) (i + 1) := by
  rw [hn, List.take_length, ← PkM.sy_succ (by simpa using h), pk_g h]
  rfl
theorem sm_g {A0 : List Pc} {k : Nat} (h : k < A0.length) : I3.g (PC.g A0 (k : Int)).s 0 = PkM.sm (A0.map pk) k := by
  unfold PkM.sm
  rw [pk_g h]
  show (PC.g A0 (k : Int)).s.getD 0 0 = (PC.g A0 (k : Int)).s.headD 0
  cases (PC.g A0 (k : Int)).s <;> rfl
theorem ct_g {A : List PkM.Pk} {most m L k : Nat} (h : 0 ≤ PkM.sm A k ∧ PkM.sm A k < L) : I3.g (PkM.cO L (PkM.sy (PkM.lv A most) m)) (PkM.sm A k) = (PkM.ct A most m k : Int) := PkM.cO_get h.1 h.2
theorem sym_bd {A0 l : List Pc} {L j : Nat} (h : PkM.Lf (A0.map pk)) (hs : ∀ i, i < (A0.map pk).length → 0 ≤ PkM.sm (A0.map pk) i ∧ PkM.sm (A0.map pk) i < L) (hl : l.map pk = PkM.lv (A0.map pk) j) {i q : Nat} (hi : i < l.length) (hq : q < (PC.g l (i : Int)).s.length) : 0 ≤ I3.g (PC.g l (i : Int)).s (q : Int) ∧ I3.g (PC.g l (i : Int)).s (q : Int) < L := by
  have hm : pk (PC.g l (i : Int)) ∈ PkM.lv (A0.map pk) j := by
    rw [← hl, ← pk_g hi]
    have e : (l.map pk).getD i (0, []) = (l.map pk)[i]'(by simpa using hi) := by simp [hi]
    rw [e]
    exact List.getElem_mem _
  have hin : I3.g (PC.g l (i : Int)).s (q : Int) ∈ (pk (PC.g l (i : Int))).2 := by
    rw [ig_at hq]
    exact List.getElem_mem _
  obtain ⟨k, hk, e⟩ := PkM.sy_leaf h j _ hm _ hin
  rw [e]
  exact hs k hk
theorem put_step {A0 : List Pc} {S CO : List Int} {k : Nat} (h : k < A0.length) : (PkM.putK (PkM.sm (A0.map pk)) (fun i => S.getD ((A0.map pk).length - 1 - i) 0) CO k).set (I3.g (PC.g A0 (k : Int)).s 0).toNat (I3.g S (((A0.length : Int) - 1) - (k : Int))) = PkM.putK (PkM.sm (A0.map pk)) (fun i => S.getD ((A0.map pk).length - 1 - i) 0) CO (k + 1) := by
  rw [sm_g h, PkM.putK]
  have e : I3.g S (((A0.length : Int) - 1) - (k : Int)) = S.getD ((A0.map pk).length - 1 - k) 0 := by
    show S.getD (((A0.length : Int) - 1) - (k : Int)).toNat 0 = _
    rw [List.length_map, show (((A0.length : Int) - 1) - (k : Int)).toNat = A0.length - 1 - k by omega]
  rw [e]
/-- A round of the merge. -/
theorem lv_next {A0 o2 l l2 : List Pc} {j n : Nat} (hS : PkM.Srt (A0.map pk)) (hl : l.map pk = PkM.lv (A0.map pk) (j + 1)) (ho : o2.map pk = PkM.prd (l.map pk)) (hn : (A0 ++ o2).length = n) (h : StS.Rl Pc.w PC.d (A0 ++ o2) l2 0 n) (hs : StS.Sd Pc.w PC.d l2 0 n) : l2.map pk = PkM.lv (A0.map pk) (j + 1 + 1) := by
  have h1 := ss_of hn h hs
  rw [List.map_append, ho, hl] at h1
  exact h1.eq hS (PkM.prd_srt _ (PkM.lv_srt hS _))
end Go.Sl

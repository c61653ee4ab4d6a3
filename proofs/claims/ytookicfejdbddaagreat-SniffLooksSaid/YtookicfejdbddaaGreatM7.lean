/- Walks of functions that the law reaches, and what they lean on; no conditions. -/
import Derived.Test.YtookicfejdbddaaGreatM4
import Derived.Test.YtookicfejdbddaaGreatM3
set_option linter.unusedVariables false
set_option linter.unusedSimpArgs false
set_option linter.unnecessarySimpa false
set_option maxRecDepth 100000
namespace Go.BitP
def Byt (B : List Int) : Prop := ∀ x ∈ B, 0 ≤ x ∧ x < 256
theorem Byt.get {B : List Int} (h : Byt B) (i : Nat) : 0 ≤ B.getD i 0 ∧ B.getD i 0 < 256 := by
  rcases Nat.lt_or_ge i B.length with hi | hi
  · exact h _ (by simp [List.getD_eq_getElem?_getD, hi])
  · simp [List.getD_eq_getElem?_getD, hi]
def bitL (B : List Int) (i : Nat) : Int := B.getD (i / 8) 0 / 2 ^ (i % 8) % 2
def numL (B : List Int) (at_ : Nat) : Nat → Int
  | 0 => 0
  | n + 1 => numL B at_ n + bitL B (at_ + n) * 2 ^ n
theorem ofInt_nat (k : Nat) (a : Nat) : (BitVec.ofInt k (a : Int)).toNat = a % 2 ^ k := by
  rw [BitVec.toNat_ofInt]
  have : ((a : Int) % ((2 ^ k : Nat) : Int)) = ((a % 2 ^ k : Nat) : Int) := by simp
  omega
theorem or64 {a b : Nat} (ha : a < 2 ^ 62) (hb : b < 2 ^ 62) : IntKind.i64.wrap ((BitVec.ofInt IntKind.i64.bits (a : Int) ||| BitVec.ofInt IntKind.i64.bits (b : Int)).toNat : Int) = ((a ||| b : Nat) : Int) := by
  have e : IntKind.i64.bits = 64 := rfl
  rw [e, BitVec.toNat_or, ofInt_nat, ofInt_nat, Nat.mod_eq_of_lt (by omega), Nat.mod_eq_of_lt (by omega)]
  have := Nat.or_lt_two_pow ha hb
  exact Sl.wrapI (by omega) (by omega)
end Go.BitP
namespace Go.Sl
end Go.Sl
namespace Go.Sl
section
variable {C : Ctx} {Q : QT} {E : Env} {L : List HProp} {ops : Array Oper} {rest : List Oper} {d : Nat} {ty : TypeId} {pos : String} {aft : Array Edge}
theorem num_map (l : List Int) (h : ∀ x ∈ l, 0 ≤ x ∧ x < 256) : (strOfNums l).data.toList.map (fun b => Value.int .u8 b.toNat) = l.map (Value.int .u8) := by
  unfold strOfNums
  simp only [List.map_map]
  refine List.map_congr_left fun x hx => ?_
  have := h x hx
  simp only [Function.comp_apply, UInt8.toNat_ofNat', Value.int.injEq, true_and]
  rw [Nat.mod_eq_of_lt (by omega)]
  omega
theorem num_inj {l m : List Int} (hl : ∀ x ∈ l, 0 ≤ x ∧ x < 256) (hm : ∀ x ∈ m, 0 ≤ x ∧ x < 256) (h : strOfNums l = strOfNums m) : l = m := by
  have e := num_map l hl
  rw [h, num_map m hm] at e
  exact (List.map_inj_right (fun x y e => by cases e; rfl)).1 e.symm
theorem num_size (l : List Int) : (strOfNums l).size = l.length := by simp [strOfNums, ByteArray.size]
theorem x_appendS {s x : Operand} {t tS e sz by_ n m cap : Nat} {p : Option Addr} {vs ws zs : List Value} {u : ByteArray} {F : List HProp}
    (ht : sliceB C.P t = some (e, sz, by_)) (hS : C.P.underlying tS = some .string) (hz : zeroB C.P e = some zs) (hs1 : sz = 1) (hby : Nat.ble 1 by_ = true)
    (hs : evalE E s = some (.slice p n cap)) (hx : evalE E x = some (.string u)) (hu : u.data.toList.map (fun b => Value.int .u8 b.toNat) = ws) (hum : u.size = m)
    (hL : Rem L (Sl p n cap e sz vs) F) (hb : (n + m) * by_ ≤ 140737488355328) :
    OpX C (.call ⟨.builtin .append, [s, x].toArray, #[t, tS]⟩) ty E L (fun v L' => ∃ p' cap', v = .slice p' (n + m) cap' ∧ L' = Sl p' (n + m) cap' e sz (vs ++ ws) :: F) := by
  intro d pos aft g a w K Qx ha hi hK
  obtain ⟨ht1, i, hi2, rfl, rfl⟩ := slice_spec ht
  obtain ⟨i', z, hz1, hz2, hz3, hz4⟩ := zero_spec hz
  rw [hi2] at hz1
  cases hz1
  have hby := Nat.le_of_ble_eq_true hby
  have hnm : n + m ≤ (n + m) * i.bytes := Nat.le_mul_of_pos_right _ hby
  have hsmall : n + m ≤ 140737488355328 := by omega
  have hwl : ws.length = m * i.size := by rw [← hu, hs1, Nat.mul_one, ← hum, List.length_map, Array.length_toList]; rfl
  obtain ⟨consts, hrun⟩ := run_resolve_builtin (C := C) (ty := ty) (pos := pos) (aft := aft) (b := .append) (xs := [s, x]) (tys := #[t, tS]) (vs := [.slice p n cap, .string u]) (a := a) (by simp [ha.eval hs, ha.eval hx]) d g w
  suffices h : ∃ p' cap' w', (Builtin.append_ #[t, tS] ty #[.slice p n cap, .string u]).run C.P w = .ok (.slice p' (n + m) cap') w' ∧ Inv C.w0 (Sl p' (n + m) cap' e i.size (vs ++ ws) :: F) w' by
    obtain ⟨p', cap', w', hr, hi'⟩ := h
    unfold Oper.wp
    rw [hrun]
    simp only [builtin, Sem.run_bind, hr, Result.andThen_ok, Sem.run_pure]
    exact hK _ _ _ ⟨p', cap', rfl, rfl⟩ hi'
  have hfirst : ∀ w1 : World, (Builtin.firstCells i.size m (.string u)).run C.P w1 = .ok ws.toArray w1 := by
    intro w1
    have e0 : u.extract 0 m = u := by
      rw [← hum]
      exact ByteArray.extract_zero_size
    simp only [Builtin.firstCells, e0, Sem.run_pure]
    congr 1
    apply Array.ext'
    simp [← hu]
  have hall : ∀ y ∈ ws, y.oneCell' = true := fun y hy => by
    rw [← hu] at hy
    obtain ⟨b, _, rfl⟩ := List.mem_map.1 hy
    rfl
  have hgrow : ∀ (vs0 : List Value), vs0 = vs → n * i.size = vs.length → cap < n + m →
      (∀ w1 : World, (∀ q, w1.cell? q = w.cell? q) → (Builtin.firstCells i.size n (.slice p n cap)).run C.P w1 = .ok vs.toArray w1) →
      Inv C.w0 F w →
      ∃ p' cap' w', (Builtin.append_ #[t, tS] ty #[.slice p n cap, .string u]).run C.P w = .ok (.slice p' (n + m) cap') w' ∧ Inv C.w0 (Sl p' (n + m) cap' e i.size (vs ++ ws) :: F) w' := by
    intro vs0 _ hvl hlt hold hiF
    have hfit : Builtin.nextslicecap (n + m) cap * i.bytes ≤ 281474976710656 := growslice_fits hlt hb
    have h63 : ¬ (9223372036854775807 < ((n : Int) + (m : Int))) := by omega
    have h48 : ¬ (281474976710656 < Builtin.nextslicecap (n + m) cap * i.bytes) := by omega
    have hng : ¬ (n + m ≤ cap) := by omega
    refine ⟨some ⟨w.heap.size, 0, none⟩, grownCap w (n + m) cap e, w.drew.alloc (.cells (vs ++ ws ++ (Builtin.zeroCells z.cells (grownCap w (n + m) cap e - (n + m))).toList).toArray e), ?_, ?_⟩
    · have e1 := hold w.drew (fun q => by simp)
      have e2 := hfirst w.drew
      have harr : ∀ Z : Array Value, (vs ++ ws ++ Z.toList).toArray = vs.toArray ++ ws.toArray ++ Z := fun Z => by apply Array.ext'; simp
      rw [harr]
      simp [Builtin.append_, run_underlying ht1, run_underlying hS, sizeOf, typeInfo, zeroValue, hi2, hz2, Builtin.lenOf, hum, hng, h63, h48, Question.forced, e1, e2, newRow, grownCap]
      congr 1
      congr 1
      apply Array.ext'
      simp
    · have hge := grownCap_ge w (n + m) cap e
      refine Inv.imp ?_ (hiF.drew.alloc e (vs ++ ws ++ (Builtin.zeroCells z.cells (grownCap w (n + m) cap e - (n + m))).toList))
      intro h hc
      refine .inr ⟨_, 0, [], (Builtin.zeroCells z.cells (grownCap w (n + m) cap e - (n + m))).toList, rfl, by simpa using hc, rfl, ?_, ?_, hge⟩
      · simp [← hvl, hwl, Nat.add_mul]
      · have : z.cells.size = i.size := by rw [hz3, hz4]; simp
        simp [size_zeroCells, this]
  obtain ⟨zz, hzz, hi1⟩ := (hi.perm hL.perm).opn (Sl.open_ C.w0)
  cases zz with
  | none =>
    obtain ⟨rfl, rfl, rfl, rfl⟩ := hzz
    by_cases hm0 : m = 0
    · subst hm0
      simp at hwl
      subst hwl
      refine ⟨none, 0, w, ?_, (hi1.sl_nil e i.size)⟩
      have e1 := hfirst w
      simp [Builtin.append_, run_underlying ht1, run_underlying hS, sizeOf, typeInfo, hi2, Builtin.lenOf, hum, e1]
    · exact hgrow [] rfl (by simp) (by omega) (fun w1 _ => by simp [Builtin.firstCells]) hi1
  | some zz =>
    obtain ⟨b, o, pre, post⟩ := zz
    obtain ⟨rfl, e1, e2, e3, e4⟩ := hzz
    by_cases hroom : n + m ≤ cap
    · have hfit : o + n * i.size + ws.length ≤ (pre ++ vs ++ post).length := by
        have : (n + m - n) * i.size ≤ (cap - n) * i.size := Nat.mul_le_mul_right _ (by omega)
        rw [show n + m - n = m by omega] at this
        simp only [List.length_append, e1, e2, hwl]
        omega
      obtain ⟨w', hr, hi'⟩ := run_storeCells (C := C) ws (o + n * i.size) 0 _ _ w hall (by simpa using hfit) hi1
      refine ⟨some ⟨b, o, none⟩, cap, w', ?_, ?_⟩
      · have hf := hfirst w
        simp [Builtin.append_, run_underlying ht1, run_underlying hS, sizeOf, typeInfo, hi2, Builtin.lenOf, hum, hroom, hf, Addr.add_mk, hr]
      · refine Inv.cls (B := [Cel b e (pre ++ (vs ++ ws) ++ post.drop ws.length)]) (fun h hc => Sl.mk hc e1 (by simp [e2, hwl, Nat.add_mul]) ?_ hroom) ?_
        · simp only [List.length_drop, hwl]
          have : (cap - (n + m)) * i.size = (cap - n) * i.size - m * i.size := by rw [← Nat.sub_mul]; congr 1; omega
          omega
        · have e5 : (pre ++ vs ++ post).take (o + n * i.size + 0) = pre ++ vs := by
            rw [Nat.add_zero]
            exact List.take_left' (by simp [e1, e2])
          have e6 : (pre ++ vs ++ post).drop (o + n * i.size + 0 + ws.length) = post.drop ws.length := by
            rw [Nat.add_zero, show o + n * i.size + ws.length = (pre ++ vs).length + ws.length by simp [e1, e2]]
            rw [← List.drop_drop, List.drop_left]
          rw [e5, e6] at hi'
          simpa [List.append_assoc] using hi'
    · refine hgrow vs rfl e2.symm (by omega) (fun w1 hw1 => ?_) hi1.tail
      refine run_firstCells_some (P := C.P) w1 i.size n _ n cap vs e2 (fun j v hj => ?_)
      have hlt := (List.getElem?_eq_some_iff.1 hj).1
      rw [hw1, Addr.add_mk, Inv.cel_cell hi1]
      rw [List.append_assoc, List.getElem?_append_right (by omega), show o + j - pre.length = j by omega, List.getElem?_append_left hlt]
      exact hj
theorem ba_ne {l m : List Int} (hl : ∀ x ∈ l, 0 ≤ x ∧ x < 256) (hm : ∀ x ∈ m, 0 ≤ x ∧ x < 256) (h : l ≠ m) : ((strOfNums l).toList == (strOfNums m).toList) = false := by
  refine beq_eq_false_iff_ne.2 fun e => h (num_inj hl hm ?_)
  exact ByteArray.ext (Array.ext' (by rw [← ByteArray.toList_eq, ← ByteArray.toList_eq, e]))
end
end Go.Sl
namespace Go.UsP
open Go.BitP Go.Sl
theorem byt_all {l : List Int} (h : Byt l) : ∀ x ∈ l, 0 ≤ x ∧ x < 256 := h
theorem all_byt {l : List Int} (h : ∀ x ∈ l, 0 ≤ x ∧ x < 256) : Byt l := h
theorem byt_take {l : List Int} (h : Byt l) (i : Nat) : Byt (l.take i) := fun x hx => h x (List.mem_of_mem_take hx)
theorem byt_drop {l : List Int} (h : Byt l) (i : Nat) : Byt (l.drop i) := fun x hx => h x (List.mem_of_mem_drop hx)
theorem take_len {l : List Int} {i n : Nat} (h : i + n ≤ l.length) : ((l.drop i).take n).length = n := by rw [List.length_take, List.length_drop]; omega
theorem dt_get {B : List Int} {a n i : Nat} (h : i < n) : ((B.drop a).take n).getD i 0 = B.getD (a + i) 0 := by
  simp only [List.getD_eq_getElem?_getD, List.getElem?_take, List.getElem?_drop, if_pos h]
def sgn : List Int := [137, 80, 78, 71, 13, 10, 26, 10]
def g7 : List Int := [71, 73, 70, 56, 55, 97]
def g9 : List Int := [71, 73, 70, 56, 57, 97]
def bm : List Int := [66, 77]
theorem sgn_b : ∀ x ∈ sgn, 0 ≤ x ∧ x < 256 := by decide
theorem g7_b : ∀ x ∈ g7, 0 ≤ x ∧ x < 256 := by decide
theorem g9_b : ∀ x ∈ g9, 0 ≤ x ∧ x < 256 := by decide
theorem bm_b : ∀ x ∈ bm, 0 ≤ x ∧ x < 256 := by decide
def bgs (k : Nat) (B : List Int) : Prop := if k = 1 then B.take 8 = sgn else if k = 2 then B.take 6 = g7 ∨ B.take 6 = g9 else B.take 2 = bm
instance (k : Nat) (B : List Int) : Decidable (bgs k B) := by unfold bgs; infer_instance
theorem bgs1 {B : List Int} : bgs 1 B ↔ B.take 8 = sgn := .rfl
theorem bgs2 {B : List Int} : bgs 2 B ↔ B.take 6 = g7 ∨ B.take 6 = g9 := .rfl
theorem bgs3 {B : List Int} : bgs 3 B ↔ B.take 2 = bm := .rfl
theorem tk_len {B l : List Int} {n : Nat} (h : B.take n = l) (hl : l.length = n) : n ≤ B.length := by
  have := congrArg List.length h
  rw [List.length_take, hl] at this
  omega
theorem bm_iff : ∀ {B : List Int}, B.take 2 = bm ↔ 1 < B.length ∧ B.getD 0 0 = 66 ∧ B.getD 1 0 = 77
  | [] => Iff.intro (fun h => by cases h) (fun h => absurd h.1 (by decide))
  | [_] => Iff.intro (fun h => by cases h) (fun h => absurd h.1 (by simp))
  | a :: b :: l => Iff.intro (fun h => by cases h; exact ⟨by simp, rfl, rfl⟩) (fun ⟨_, h1, h2⟩ => by
      show [a, b] = bm
      rw [show a = 66 from h1, show b = 77 from h2]; rfl)
theorem bgs3' {B : List Int} : bgs 3 B ↔ 1 < B.length ∧ B.getD 0 0 = 66 ∧ B.getD 1 0 = 77 := bgs3.trans bm_iff
def kind (B : List Int) : Nat := if bgs 1 B then 1 else if bgs 2 B then 2 else if bgs 3 B then 3 else 0
theorem kind1 {B : List Int} (h : bgs 1 B) : kind B = 1 := if_pos h
theorem kind2 {B : List Int} (h1 : ¬ bgs 1 B) (h : bgs 2 B) : kind B = 2 := by unfold kind; rw [if_neg h1, if_pos h]
theorem kind3 {B : List Int} (h1 : ¬ bgs 1 B) (h2 : ¬ bgs 2 B) (h : bgs 3 B) : kind B = 3 := by unfold kind; rw [if_neg h1, if_neg h2, if_pos h]
theorem kind0 {B : List Int} (h1 : ¬ bgs 1 B) (h2 : ¬ bgs 2 B) (h : ¬ bgs 3 B) : kind B = 0 := by unfold kind; rw [if_neg h1, if_neg h2, if_neg h]
theorem kind_at {B : List Int} {k : Nat} (h0 : 1 ≤ k) (h3 : k ≤ 3) (h : bgs k B) (hn : ∀ j, 1 ≤ j → j < k → ¬ bgs j B) : kind B = k := by
  rcases (by omega : k = 1 ∨ k = 2 ∨ k = 3) with rfl | rfl | rfl
  · exact kind1 h
  · exact kind2 (hn 1 (by omega) (by omega)) h
  · exact kind3 (hn 1 (by omega) (by omega)) (hn 2 (by omega) (by omega)) h
theorem kind_no {B : List Int} (hn : ∀ j, 1 ≤ j → j < 4 → ¬ bgs j B) : kind B = 0 := kind0 (hn 1 (by omega) (by omega)) (hn 2 (by omega) (by omega)) (hn 3 (by omega) (by omega))
theorem kind_or (B : List Int) : kind B = 0 ∨ kind B = 1 ∨ kind B = 2 ∨ kind B = 3 := by
  unfold kind
  split
  · exact .inr (.inl rfl)
  split
  · exact .inr (.inr (.inl rfl))
  split
  · exact .inr (.inr (.inr rfl))
  · exact .inl rfl
theorem loop6 {B : List Int} (k : Nat) (h0 : 1 ≤ k) (h3 : k ≤ 3) : (k = 1 ∧ bgs k B) ∨ (k = 1 ∧ ¬ bgs k B) ∨ (k = 2 ∧ bgs k B) ∨ (k = 2 ∧ ¬ bgs k B) ∨ (k = 3 ∧ bgs k B) ∨ (k = 3 ∧ ¬ bgs k B) := by
  by_cases h : bgs k B <;> rcases (by omega : k = 1 ∨ k = 2 ∨ k = 3) with e | e | e <;> simp [e, h] <;> simp_all
theorem kind_doc (B : List Int) : (¬ 8 ≤ B.length ∧ ¬ bgs 1 B) ∨ (8 ≤ B.length ∧ B.take 8 = sgn ∧ bgs 1 B) ∨ (8 ≤ B.length ∧ B.take 8 ≠ sgn ∧ ¬ bgs 1 B) := by
  by_cases h : 8 ≤ B.length
  · by_cases h2 : B.take 8 = sgn
    · exact .inr (.inl ⟨h, h2, h2⟩)
    · exact .inr (.inr ⟨h, h2, h2⟩)
  · exact .inl ⟨h, fun h2 => h (tk_len (bgs1.1 h2) rfl)⟩
theorem gif_doc (B : List Int) : (¬ 6 ≤ B.length ∧ ¬ bgs 2 B) ∨ (6 ≤ B.length ∧ B.take 6 = g7 ∧ bgs 2 B) ∨ (6 ≤ B.length ∧ B.take 6 ≠ g7 ∧ B.take 6 = g9 ∧ bgs 2 B) ∨ (6 ≤ B.length ∧ B.take 6 ≠ g7 ∧ B.take 6 ≠ g9 ∧ ¬ bgs 2 B) := by
  by_cases h : 6 ≤ B.length
  · by_cases h2 : B.take 6 = g7
    · exact .inr (.inl ⟨h, h2, .inl h2⟩)
    by_cases h3 : B.take 6 = g9
    · exact .inr (.inr (.inl ⟨h, h2, h3, .inr h3⟩))
    · exact .inr (.inr (.inr ⟨h, h2, h3, fun hh => (bgs2.1 hh).elim h2 h3⟩))
  · exact .inl ⟨h, fun h2 => h ((bgs2.1 h2).elim (fun e => tk_len e rfl) (fun e => tk_len e rfl))⟩
theorem gif3 (B : List Int) : (B.take 6 = g7 ∧ bgs 2 B) ∨ (B.take 6 ≠ g7 ∧ B.take 6 = g9 ∧ bgs 2 B) ∨ (B.take 6 ≠ g7 ∧ B.take 6 ≠ g9 ∧ ¬ bgs 2 B) := by
  by_cases h2 : B.take 6 = g7
  · exact .inl ⟨h2, .inl h2⟩
  by_cases h3 : B.take 6 = g9
  · exact .inr (.inl ⟨h2, h3, .inr h3⟩)
  · exact .inr (.inr ⟨h2, h3, fun hh => (bgs2.1 hh).elim h2 h3⟩)
theorem bmp_doc (B : List Int) : (¬ 2 ≤ B.length ∧ ¬ bgs 3 B) ∨ (2 ≤ B.length ∧ B.take 2 = bm ∧ bgs 3 B) ∨ (2 ≤ B.length ∧ B.take 2 ≠ bm ∧ ¬ bgs 3 B) := by
  by_cases h : 2 ≤ B.length
  · by_cases h2 : B.take 2 = bm
    · exact .inr (.inl ⟨h, h2, h2⟩)
    · exact .inr (.inr ⟨h, h2, h2⟩)
  · exact .inl ⟨h, fun h2 => h (tk_len (bgs3.1 h2) rfl)⟩
theorem bmp4 (B : List Int) : (¬ 1 < B.length ∧ ¬ bgs 3 B) ∨ (1 < B.length ∧ B.getD 0 0 ≠ 66 ∧ ¬ bgs 3 B) ∨ (1 < B.length ∧ B.getD 0 0 = 66 ∧ B.getD 1 0 ≠ 77 ∧ ¬ bgs 3 B) ∨ (1 < B.length ∧ B.getD 0 0 = 66 ∧ B.getD 1 0 = 77 ∧ bgs 3 B) := by
  rw [bgs3']
  by_cases h1 : 1 < B.length <;> by_cases h2 : B.getD 0 0 = 66 <;> by_cases h3 : B.getD 1 0 = 77 <;> simp [h1, h2, h3] <;> simp_all
def hi (B : List Int) (a : Nat) : Nat → Int
  | 0 => 0
  | n + 1 => hi B a n * 256 + B.getD (a + n) 0
theorem hi_in {B : List Int} (hB : Byt B) (a : Nat) : ∀ n : Nat, n ≤ 4 → 0 ≤ hi B a n ∧ hi B a n < 4294967296 ∧ (n ≤ 3 → hi B a n < 16777216)
  | 0, _ => by unfold hi; omega
  | 1, _ => by have := hB.get (a + 0); simp only [hi]; omega
  | 2, _ => by have := hB.get (a + 0); have := hB.get (a + 1); simp only [hi]; omega
  | 3, _ => by have := hB.get (a + 0); have := hB.get (a + 1); have := hB.get (a + 2); simp only [hi]; omega
  | 4, _ => by have := hB.get (a + 0); have := hB.get (a + 1); have := hB.get (a + 2); have := hB.get (a + 3); simp only [hi]; omega
theorem hi_sub (B : List Int) (a n : Nat) : ∀ k ≤ n, hi ((B.drop a).take n) 0 k = hi B a k
  | 0, _ => rfl
  | k + 1, h => by rw [hi, hi, hi_sub B a n k (by omega), dt_get (by omega), Nat.zero_add]
def lo (B : List Int) (a : Nat) : Nat → Int
  | 0 => 0
  | n + 1 => lo B a n + B.getD (a + n) 0 * 2 ^ (8 * n)
def dn (B : List Int) (a n : Nat) : Nat → Int
  | 0 => 0
  | k + 1 => dn B a n k * 256 + B.getD (a + (n - 1 - k)) 0
theorem p8 : (2 : Int) ^ (8 * 0) = 1 ∧ (2 : Int) ^ (8 * 1) = 256 ∧ (2 : Int) ^ (8 * 2) = 65536 ∧ (2 : Int) ^ (8 * 3) = 16777216 := by decide
theorem lo_in {B : List Int} (hB : Byt B) (a : Nat) : ∀ n : Nat, n ≤ 4 → 0 ≤ lo B a n ∧ lo B a n < 2 ^ (8 * n)
  | 0, _ => by unfold lo; decide
  | 1, _ => by have := hB.get (a + 0); simp only [lo, p8]; omega
  | 2, _ => by have := hB.get (a + 0); have := hB.get (a + 1); simp only [lo, p8]; omega
  | 3, _ => by have := hB.get (a + 0); have := hB.get (a + 1); have := hB.get (a + 2); simp only [lo, p8]; omega
  | 4, _ => by have := hB.get (a + 0); have := hB.get (a + 1); have := hB.get (a + 2); have := hB.get (a + 3); simp only [lo, p8]; omega
theorem lo_lt {B : List Int} (hB : Byt B) (a n : Nat) (h : n ≤ 4) : lo B a n < 4294967296 := Int.lt_of_lt_of_le (lo_in hB a n h).2 (by
  rcases (by omega : n = 0 ∨ n = 1 ∨ n = 2 ∨ n = 3 ∨ n = 4) with rfl | rfl | rfl | rfl | rfl <;> decide)
theorem sh_in {x : Int} (h : 0 ≤ x ∧ x < 256) {k : Nat} (hk : k < 4) : 0 ≤ x * 2 ^ (8 * k) ∧ x * 2 ^ (8 * k) < 4294967296 := by
  rcases (by omega : k = 0 ∨ k = 1 ∨ k = 2 ∨ k = 3) with rfl | rfl | rfl | rfl <;> simp only [p8] <;> omega
theorem lo_sub (B : List Int) (a n : Nat) : ∀ k ≤ n, lo ((B.drop a).take n) 0 k = lo B a k
  | 0, _ => rfl
  | k + 1, h => by rw [lo, lo, lo_sub B a n k (by omega), dt_get (by omega), Nat.zero_add]
theorem dn_in {B : List Int} (hB : Byt B) (a n : Nat) : ∀ k : Nat, k ≤ 4 → 0 ≤ dn B a n k ∧ dn B a n k < 4294967296 ∧ (k ≤ 3 → dn B a n k < 16777216)
  | 0, _ => by unfold dn; omega
  | 1, _ => by have := hB.get (a + (n - 1 - 0)); simp only [dn]; omega
  | 2, _ => by have := hB.get (a + (n - 1 - 0)); have := hB.get (a + (n - 1 - 1)); simp only [dn]; omega
  | 3, _ => by have := hB.get (a + (n - 1 - 0)); have := hB.get (a + (n - 1 - 1)); have := hB.get (a + (n - 1 - 2)); simp only [dn]; omega
  | 4, _ => by have := hB.get (a + (n - 1 - 0)); have := hB.get (a + (n - 1 - 1)); have := hB.get (a + (n - 1 - 2)); have := hB.get (a + (n - 1 - 3)); simp only [dn]; omega
theorem dn_2 (B : List Int) (a : Nat) : dn B a 2 2 = lo B a 2 := by simp only [dn, lo, p8, show a + (2 - 1 - 0) = a + 1 from rfl, show a + (2 - 1 - 1) = a + 0 from rfl]; omega
theorem dn_4 (B : List Int) (a : Nat) : dn B a 4 4 = lo B a 4 := by simp only [dn, lo, p8, show a + (4 - 1 - 0) = a + 3 from rfl, show a + (4 - 1 - 1) = a + 2 from rfl, show a + (4 - 1 - 2) = a + 1 from rfl, show a + (4 - 1 - 3) = a + 0 from rfl]; omega
theorem lo_4 {B : List Int} (hB : Byt B) (a : Nat) : 0 ≤ lo B a 4 ∧ lo B a 4 < 4294967296 := lo_in hB a 4 (by decide)
def sg (n : Int) : Int := IntKind.i32.wrap n
theorem sg_in (n : Int) : -2147483648 ≤ sg n ∧ sg n ≤ 2147483647 := by
  have e : sg n = (if n % 4294967296 < 2147483648 then n % 4294967296 else n % 4294967296 - 4294967296) := by
    unfold sg; rw [IntKind.wrap_i32]; split <;> omega
  rw [e]; split <;> omega
theorem wrap64 {n : Int} (h1 : 0 ≤ n) (h2 : n < 4294967296) : IntKind.i64.wrap n = n := Go.Sl.wrapI (by omega) (by omega)
theorem wrap32 {n : Int} (h1 : 0 ≤ n) (h2 : n < 4294967296) : IntKind.u32.wrap n = n := by
  have e : IntKind.u32.wrap n = n % 4294967296 := rfl
  rw [e]; omega
theorem shlI {x r : Int} {n : Nat} {d : Int} (hd : d = (n : Int)) (hn : n ≤ 32) (hr : r = x * 2 ^ n) (h0 : 0 ≤ r) (h1 : r < 4294967296) : IntKind.i64.wrap (x * 2 ^ (min d.toNat IntKind.i64.bits)) = r := by
  have e : min d.toNat IntKind.i64.bits = n := by
    have : IntKind.i64.bits = 64 := rfl
    omega
  rw [e, ← hr]; exact wrap64 h0 h1
theorem or_add {a b n : Nat} (hb : b < 2 ^ n) : a * 2 ^ n ||| b = a * 2 ^ n + b := by
  have := Nat.shiftLeft_add_eq_or_of_lt hb a
  rw [Nat.shiftLeft_eq] at this
  exact this.symm
theorem ofInt_nat (a n : Nat) : (BitVec.ofInt n (a : Int)).toNat = a % 2 ^ n := by simp [BitVec.toNat_ofInt]
theorem or64 {x y u : Int} {n : Nat} (hx : x = u * 2 ^ n) (hu : 0 ≤ u) (hy : 0 ≤ y ∧ y < 2 ^ n) (h : x + y < 4294967296) : IntKind.i64.wrap ((BitVec.ofInt IntKind.i64.bits x ||| BitVec.ofInt IntKind.i64.bits y).toNat : Int) = x + y := by
  obtain ⟨a, rfl⟩ : ∃ a : Nat, u = (a : Int) := ⟨u.toNat, by omega⟩
  obtain ⟨b, rfl⟩ : ∃ b : Nat, y = (b : Int) := ⟨y.toNat, by omega⟩
  have e : IntKind.i64.bits = 64 := rfl
  have hb : b < 2 ^ n := by have := hy.2; exact_mod_cast this
  have hx2 : x = ((a * 2 ^ n : Nat) : Int) := by rw [hx]; push_cast; rfl
  subst hx2
  rw [e, BitVec.toNat_or, ofInt_nat, ofInt_nat, Nat.mod_eq_of_lt (by omega), Nat.mod_eq_of_lt (by omega), or_add hb, wrap64 (by omega) (by omega)]
  omega
theorem or64' {x y u : Int} {n : Nat} (hx : x = u * 2 ^ n) (hu : 0 ≤ u) (hy : 0 ≤ y ∧ y < 2 ^ n) (h : x + y < 4294967296) : IntKind.i64.wrap ((BitVec.ofInt IntKind.i64.bits y ||| BitVec.ofInt IntKind.i64.bits x).toNat : Int) = y + x := by
  rw [BitVec.or_comm, or64 hx hu hy h]; omega
def sizeE (w h : Int) : Int := if w < 1 ∨ h < 1 then 1 else if 256 < w ∨ 256 < h ∨ 16384 / h < w then 6 else 0
theorem size6 (w h : Int) : (w < 1 ∧ sizeE w h = 1) ∨ (¬ w < 1 ∧ h < 1 ∧ sizeE w h = 1) ∨ (¬ w < 1 ∧ ¬ h < 1 ∧ 256 < w ∧ sizeE w h = 6) ∨ (¬ w < 1 ∧ ¬ h < 1 ∧ ¬ 256 < w ∧ 256 < h ∧ sizeE w h = 6) ∨ (¬ w < 1 ∧ ¬ h < 1 ∧ ¬ 256 < w ∧ ¬ 256 < h ∧ 16384 / h < w ∧ sizeE w h = 6) ∨ (¬ w < 1 ∧ ¬ h < 1 ∧ ¬ 256 < w ∧ ¬ 256 < h ∧ ¬ 16384 / h < w ∧ sizeE w h = 0) := by
  unfold sizeE
  by_cases h1 : w < 1
  · exact .inl ⟨h1, if_pos (.inl h1)⟩
  by_cases h2 : h < 1
  · exact .inr (.inl ⟨h1, h2, if_pos (.inr h2)⟩)
  rw [if_neg (by omega)]
  by_cases h3 : 256 < w
  · exact .inr (.inr (.inl ⟨h1, h2, h3, if_pos (.inl h3)⟩))
  by_cases h4 : 256 < h
  · exact .inr (.inr (.inr (.inl ⟨h1, h2, h3, h4, if_pos (.inr (.inl h4))⟩)))
  by_cases h5 : 16384 / h < w
  · exact .inr (.inr (.inr (.inr (.inl ⟨h1, h2, h3, h4, h5, if_pos (.inr (.inr h5))⟩))))
  · exact .inr (.inr (.inr (.inr (.inr ⟨h1, h2, h3, h4, h5, if_neg (by rintro (h | h | h); exact h3 h; exact h4 h; exact h5 h)⟩))))
theorem sides {w h : Int} (hs : sizeE w h = 0) : 1 ≤ w ∧ w ≤ 256 ∧ 1 ≤ h ∧ h ≤ 256 := by
  rcases size6 w h with h | h | h | h | h | ⟨h1, h2, h3, h4, h5, _⟩ <;> omega
theorem quo_ok {h : Int} (h1 : 1 ≤ h) : IntKind.i64.wrap ((16384 : Int).tdiv h) = 16384 / h := by
  rw [Int.tdiv_eq_ediv_of_nonneg (by decide)]
  have := Int.ediv_nonneg (a := 16384) (b := h) (by decide) (by omega)
  have h2 : 16384 / h ≤ 16384 := Int.ediv_le_self _ (by decide)
  exact wrapI (by omega) (by omega)
theorem max_if (a b : Int) : (if a < b then b else a) = max a b := by omega
theorem min_len (B : List Int) (n : Nat) : (if (n : Int) < (B.length : Int) then (n : Int) else (B.length : Int)) = ((B.take n).length : Int) := by rw [List.length_take]; split <;> omega
theorem pre3 (l d : List Int) : (¬ d.length ≤ l.length ∧ ¬ l.take d.length = d) ∨ (d.length ≤ l.length ∧ l.take d.length = d) ∨ (d.length ≤ l.length ∧ ¬ l.take d.length = d) := by
  by_cases h : d.length ≤ l.length
  · by_cases h2 : l.take d.length = d
    · exact .inr (.inl ⟨h, h2⟩)
    · exact .inr (.inr ⟨h, h2⟩)
  · exact .inl ⟨h, fun e => h (tk_len e rfl)⟩
theorem bgs1d (B : List Int) : decide (bgs 1 B) = decide ((B.take 8).take sgn.length = sgn) := by
  rw [show sgn.length = 8 from rfl, List.take_take, Nat.min_self]
  exact decide_eq_decide.2 bgs1
def sid (B : List Int) : Int × Int := if kind B = 1 then (hi B 16 4, hi B 20 4) else if kind B = 2 then (lo B 6 2, lo B 8 2) else (sg (lo B 18 4), max (sg (lo B 22 4)) (0 - sg (lo B 22 4)))
def lst (B : List Int) : Nat := if kind B = 2 then 10 else 26
def err (B : List Int) : Int := if kind B = 0 then 7 else if B.length < lst B then 2 else sizeE (sid B).1 (sid B).2
def pw (B : List Int) : Int := if err B = 0 then (sid B).1 else 0
def ph (B : List Int) : Int := if err B = 0 then (sid B).2 else 0
theorem err0 {B : List Int} (h : err B = 0) : sizeE (sid B).1 (sid B).2 = 0 := by
  unfold err at h
  split at h
  · exact absurd h (by decide)
  split at h
  · exact absurd h (by decide)
  · exact h
theorem pwh {B : List Int} : 0 ≤ pw B ∧ pw B ≤ 256 ∧ 0 ≤ ph B ∧ ph B ≤ 256 := by
  unfold pw ph
  by_cases h : err B = 0
  · have := sides (err0 h)
    rw [if_pos h, if_pos h]; omega
  · rw [if_neg h, if_neg h]; decide
theorem pxl (B : List Int) : 0 ≤ pw B * ph B ∧ pw B * ph B ≤ 65536 := by
  have := pwh (B := B)
  exact ⟨Int.mul_nonneg this.1 this.2.2.1, Int.mul_le_mul this.2.1 this.2.2.2 this.2.2.1 (by omega)⟩
theorem err_7 {B : List Int} (h : kind B = 0) : err B = 7 := if_pos h
theorem err_2 {B : List Int} {k n : Nat} (h : kind B = k) (hk : k ≠ 0) (hn : lst B = n) (hl : B.length < n) : err B = 2 := by
  unfold err; rw [if_neg (by omega), if_pos (by omega)]
theorem err_s {B : List Int} {k n : Nat} {w v : Int} (h : kind B = k) (hk : k ≠ 0) (hn : lst B = n) (hl : ¬ B.length < n) (hs : sid B = (w, v)) : err B = sizeE w v := by
  unfold err; rw [if_neg (by omega), if_neg (by omega), hs]
theorem lst1 {B : List Int} (h : kind B = 1) : lst B = 26 := by unfold lst; rw [if_neg (by omega)]
theorem lst2 {B : List Int} (h : kind B = 2) : lst B = 10 := by unfold lst; rw [if_pos h]
theorem lst3 {B : List Int} (h : kind B = 3) : lst B = 26 := by unfold lst; rw [if_neg (by omega)]
theorem sid1 {B : List Int} (h : kind B = 1) : sid B = (hi B 16 4, hi B 20 4) := by unfold sid; rw [if_pos h]
theorem sid2 {B : List Int} (h : kind B = 2) : sid B = (lo B 6 2, lo B 8 2) := by unfold sid; rw [if_neg (by omega), if_pos h]
theorem sid3 {B : List Int} (h : kind B = 3) : sid B = (sg (lo B 18 4), max (sg (lo B 22 4)) (0 - sg (lo B 22 4))) := by unfold sid; rw [if_neg (by omega), if_neg (by omega)]
theorem pk_no {B : List Int} {e : Int} (h : err B = e) (he : e ≠ 0) : pw B = 0 ∧ ph B = 0 ∧ err B = e := ⟨if_neg (by omega), if_neg (by omega), h⟩
theorem pk_yes {B : List Int} {w v : Int} (h : err B = 0) (hs : sid B = (w, v)) : pw B = w ∧ ph B = v ∧ err B = 0 := ⟨by unfold pw; rw [if_pos h, hs], by unfold ph; rw [if_pos h, hs], h⟩
def cost (B : List Int) : Int := 64 + B.length + 8 * (pw B * ph B)
def room (B : List Int) : Int := if err B = 0 then B.length + 17 * (pw B * ph B) + 2048 else B.length
theorem byte_in {x : Int} (h : IntKind.u8.min ≤ x ∧ x ≤ IntKind.u8.max) : 0 ≤ x ∧ x < 256 := by
  rw [show IntKind.u8.min = 0 from rfl, show IntKind.u8.max = 255 from rfl] at h
  omega
end Go.UsP
namespace Go.StS
variable {α : Type}
structure Rl (key : α → Int) (d : α) (l l' : List α) (a b : Nat) : Prop where
  len : l'.length = l.length
  out : ∀ i, i < a ∨ b ≤ i → l'.getD i d = l.getD i d
  mem : ∀ i, a ≤ i → i < b → ∃ j, a ≤ j ∧ j < b ∧ l'.getD i d = l.getD j d
  same : ∀ c, l'.filter (fun x => decide (key x = c)) = l.filter (fun x => decide (key x = c))
def Sd (key : α → Int) (d : α) (l : List α) (a b : Nat) : Prop := ∀ i j, a ≤ i → i ≤ j → j < b → key (l.getD i d) ≤ key (l.getD j d)
variable {key : α → Int} {d : α}
end Go.StS
namespace Go.StS
variable {α : Type} {key : α → Int} {d : α}
def Ins (key : α → Int) (d : α) (l : List α) (a j i : Nat) : Prop := ∀ x y, a ≤ x → x ≤ y → y ≤ i → y ≠ j → key (l.getD x d) ≤ key (l.getD y d)
end Go.StS
namespace Go.StS
variable {α : Type} {key : α → Int} {d : α}
structure Mv (key : α → Int) (d : α) (l l2 : List α) (a b k : Nat) : Prop where
  rl : Rl key d l l2 a b
  at_ : l2.getD k d = l.getD a d
  lo : ∀ x, a ≤ x → x < k → l2.getD x d = l.getD (x + 1) d
  hi : ∀ x, k < x → l2.getD x d = l.getD x d
structure Mw (key : α → Int) (d : α) (l l2 : List α) (a b m k : Nat) : Prop where
  rl : Rl key d l l2 a b
  at_ : l2.getD k d = l.getD m d
  hi : ∀ x, k < x → x ≤ m → l2.getD x d = l.getD (x - 1) d
  lo : ∀ x, x < k → l2.getD x d = l.getD x d
  up : ∀ x, m < x → l2.getD x d = l.getD x d
structure Parts (key : α → Int) (d : α) (l l1 : List α) (a s mid e b : Nat) : Prop where
  rl : Rl key d l l1 a b
  s1 : Sd key d l1 a s
  s2 : Sd key d l1 s mid
  s3 : Sd key d l1 mid e
  s4 : Sd key d l1 e b
  cr : ∀ i j, a ≤ i → i < mid → mid ≤ j → j < b → key (l1.getD i d) ≤ key (l1.getD j d)
end Go.StS
namespace Go.StS
variable {α : Type} {key : α → Int} {d : α}
def Bk (key : α → Int) (d : α) (l : List α) (s n : Nat) : Prop := ∀ x, s ∣ x → Sd key d l x (min (x + s) n)
def Bd (key : α → Int) (d : α) (l : List α) (s A : Nat) : Prop := ∀ x, s ∣ x → x + s ≤ A → Sd key d l x (x + s)
def Br (key : α → Int) (d : α) (l : List α) (s n A : Nat) : Prop := ∀ x, s ∣ x → A ≤ x → Sd key d l x (min (x + s) n)
end Go.StS
namespace Go.HuffP
def cls (ls : List Int) (n : Nat) : List Int := ((List.range ls.length).filter (fun i => decide (ls.getD i 0 = (n : Int)))).map (fun i : Nat => (i : Int))
def ordN (ls : List Int) : Nat → List Int
  | 0 => []
  | n + 1 => ordN ls n ++ cls ls (n + 1)
def ord (ls : List Int) : List Int := ordN ls 15
def off (ls : List Int) : Nat → Nat
  | 0 => 0
  | n + 1 => (ordN ls n).length
def cnt (ls : List Int) (n : Nat) : Int := if n = 0 then 0 else ((cls ls n).length : Int)
def cntL (ls : List Int) : List Int := (List.range 16).map (cnt ls)
def base (ls : List Int) : Nat → Int
  | 0 => 0
  | n + 1 => 2 * (base ls n + cnt ls n)
def lenOf (ls : List Int) (s : Nat) : Nat := (ls.getD s 0).toNat
def wordOf (ls : List Int) (s : Nat) : Int := base ls (lenOf ls s) + ((cls (ls.take s) (lenOf ls s)).length : Int)
def Vl (ls : List Int) : Prop := ls.length ≤ 320 ∧ ∀ x ∈ ls, 0 ≤ x ∧ x ≤ 15
theorem cntL_len (ls : List Int) : (cntL ls).length = 16 := by simp [cntL]
theorem cntL_get {ls : List Int} {n : Nat} (h : n < 16) : (cntL ls).getD n 0 = cnt ls n := by simp [cntL, List.getD_eq_getElem?_getD, h]
theorem cls_len_le (ls : List Int) (n : Nat) : (cls ls n).length ≤ ls.length := by
  unfold cls
  have := List.length_filter_le (fun i => decide (ls.getD i 0 = (n : Int))) (List.range ls.length)
  simpa using this
theorem cnt_nonneg (ls : List Int) (n : Nat) : 0 ≤ cnt ls n := by unfold cnt; split <;> omega
theorem cnt_le (ls : List Int) (n : Nat) : cnt ls n ≤ ls.length := by
  have := cls_len_le ls n
  unfold cnt; split <;> omega
theorem getD_take {ls : List Int} {i k : Nat} (h : i < k) : (ls.take k).getD i 0 = ls.getD i 0 := by
  simp [List.getD_eq_getElem?_getD, List.getElem?_take, h]
theorem cls_snoc {ls : List Int} {k n : Nat} (h : k < ls.length) : cls (ls.take (k + 1)) n = cls (ls.take k) n ++ (if ls[k] = (n : Int) then [(k : Int)] else []) := by
  unfold cls
  have e1 : (ls.take (k + 1)).length = k + 1 := by simp; omega
  have e2 : (ls.take k).length = k := by simp; omega
  rw [e1, e2, List.range_succ, List.filter_append, List.map_append]
  congr 1
  · congr 1
    apply List.filter_congr
    intro i hi
    have hi := List.mem_range.1 hi
    rw [getD_take (by omega), getD_take hi]
  · have : (ls.take (k + 1)).getD k 0 = ls[k] := by rw [getD_take (by omega)]; simp [List.getD_eq_getElem?_getD, h]
    by_cases he : ls[k] = (n : Int)
    · simp only [List.filter_cons, List.filter_nil, this, he, decide_true, decide_false, if_true, if_false, List.map_cons, List.map_nil]; try rfl
    · simp only [List.filter_cons, List.filter_nil, this, he, decide_true, decide_false, if_true, if_false, List.map_cons, List.map_nil]; try rfl
theorem cls_zero (n : Nat) : cls [] n = [] := by simp [cls]
def posn (ls : List Int) : List Int := ((List.range ls.length).filter (fun i => decide (0 < ls.getD i 0))).map (fun i : Nat => (i : Int))
theorem posn_snoc {ls : List Int} {k : Nat} (h : k < ls.length) : posn (ls.take (k + 1)) = posn (ls.take k) ++ (if 0 < ls[k] then [(k : Int)] else []) := by
  unfold posn
  have e1 : (ls.take (k + 1)).length = k + 1 := by simp; omega
  have e2 : (ls.take k).length = k := by simp; omega
  rw [e1, e2, List.range_succ, List.filter_append, List.map_append]
  congr 1
  · congr 1
    apply List.filter_congr
    intro i hi
    have hi := List.mem_range.1 hi
    rw [getD_take (by omega), getD_take hi]
  · have : (ls.take (k + 1)).getD k 0 = ls[k] := by rw [getD_take (by omega)]; simp [List.getD_eq_getElem?_getD, h]
    by_cases he : 0 < ls[k]
    · simp only [List.filter_cons, List.filter_nil, this, he, decide_true, decide_false, if_true, if_false, List.map_cons, List.map_nil]; try rfl
    · simp only [List.filter_cons, List.filter_nil, this, he, decide_true, decide_false, if_true, if_false, List.map_cons, List.map_nil]; try rfl
theorem posn_le (ls : List Int) : (posn ls).length ≤ ls.length := by
  unfold posn
  have := List.length_filter_le (fun i => decide (0 < ls.getD i 0)) (List.range ls.length)
  simpa using this
def left (C : List Int) : Nat → Int
  | 0 => 1
  | n + 1 => 2 * left C n - C.getD (n + 1) 0
def wholeB (C : List Int) (all : Int) : Bool := (List.range 15).all (fun n => decide (0 ≤ left C (n + 1))) && (decide (left C 15 = 0) || decide (all = 0) || (decide (all = 1) && decide (C.getD 1 0 = 1)))
theorem left_le {C : List Int} (hC : ∀ i, 0 ≤ C.getD i 0) : ∀ n, left C n ≤ 2 ^ n
  | 0 => by simp [left]
  | n + 1 => by
    have h := left_le hC n
    have := hC (n + 1)
    simp only [left]
    rw [Int.pow_succ]
    omega
theorem left_bound {C : List Int} (hC : ∀ i, 0 ≤ C.getD i 0) {n : Nat} (hn : n ≤ 15) : left C n ≤ 32768 := by
  refine Int.le_trans (left_le hC n) ?_
  have : (2 : Nat) ^ n ≤ 2 ^ 15 := Nat.pow_le_pow_right (by decide) hn
  have e : ((2 : Int) ^ n) = ((2 ^ n : Nat) : Int) := by simp
  rw [e]
  omega
theorem whole_no {C : List Int} {all : Int} {n : Nat} (h1 : 1 ≤ n) (h2 : n ≤ 15) (h : left C n < 0) : wholeB C all = false := by
  unfold wholeB
  have : (List.range 15).all (fun n => decide (0 ≤ left C (n + 1))) = false := by
    rw [List.all_eq_false]
    exact ⟨n - 1, List.mem_range.2 (by omega), by rw [show n - 1 + 1 = n by omega]; simpa using h⟩
  rw [this]; rfl
theorem whole_yes {C : List Int} {all : Int} (h : ∀ n, 1 ≤ n → n ≤ 15 → 0 ≤ left C n) : wholeB C all = (decide (left C 15 = 0) || decide (all = 0) || (decide (all = 1) && decide (C.getD 1 0 = 1))) := by
  unfold wholeB
  have : (List.range 15).all (fun n => decide (0 ≤ left C (n + 1))) = true := by
    rw [List.all_eq_true]
    intro x hx
    have := List.mem_range.1 hx
    simpa using h (x + 1) (by omega) (by omega)
  rw [this]; rfl
theorem left_nn {C : List Int} {k : Nat} (hno : ∀ m, 1 ≤ m → m ≤ k → 0 ≤ left C m) : 0 ≤ left C k := by
  rcases Nat.eq_zero_or_pos k with e | e
  · subst e; simp [left]
  · exact hno k e (Nat.le_refl _)
theorem left_next {C : List Int} {k : Nat} : 2 * left C k - C.getD ((k : Int) + 1).toNat 0 = left C (k + 1) := by
  rw [show ((k : Int) + 1).toNat = k + 1 by omega]; rfl
theorem left_more {C : List Int} {k : Nat} (hno : ∀ m, 1 ≤ m → m ≤ k → 0 ≤ left C m) (h : ¬ 2 * left C k - C.getD ((k : Int) + 1).toNat 0 < 0) : ∀ m, 1 ≤ m → m ≤ k + 1 → 0 ≤ left C m := by
  intro m h1 h2
  rcases Nat.lt_or_ge m (k + 1) with h3 | h3
  · exact hno m h1 (by omega)
  · obtain rfl : m = k + 1 := by omega
    rw [left_next] at h
    omega
theorem whole_end {C : List Int} {all : Int} {k : Nat} (hk : k ≤ 15) (h8 : ¬ ((k : Int) + 1 ≤ 15)) (hno : ∀ m, 1 ≤ m → m ≤ k → 0 ≤ left C m) : wholeB C all = (decide (left C k = 0) || decide (all = 0) || (decide (all = 1) && decide (C.getD (Int.toNat 1) 0 = 1))) := by
  obtain rfl : k = 15 := by omega
  exact whole_yes hno
def okB (ls : List Int) : Bool := ls.all (fun x => decide (0 ≤ x ∧ x ≤ 15))
def newE (ls : List Int) : Int := if 320 < ls.length then 1 else if okB ls = true then (if wholeB (cntL ls) ((posn ls).length : Int) = true then 0 else 4) else 1
def mostL (ls : List Int) : Int := ls.foldl (fun a x => if a < x then x else a) 0
end Go.HuffP
namespace Go.HuffP
open Go.StS
abbrev key (ls : List Int) (x : Int) : Int := ls.getD x.toNat 0
def nxt (ls : List Int) : Nat → Int
  | 0 => 0
  | k + 1 => wordOf ls ((ord ls).getD k 0).toNat + 1
def pln (ls : List Int) : Nat → Int
  | 0 => 0
  | k + 1 => (lenOf ls ((ord ls).getD k 0).toNat : Int)
structure At (ls : List Int) (k : Nat) (s : Nat) : Prop where
  sym : (ord ls).getD k 0 = (s : Int)
  lt : s < ls.length
  one : 1 ≤ lenOf ls s
  top : lenOf ls s ≤ 15
  len : ls.getD s 0 = (lenOf ls s : Int)
  ge : pln ls k ≤ lenOf ls s
  nn : 0 ≤ pln ls k
  word : nxt ls k * 2 ^ (lenOf ls s - (pln ls k).toNat) = wordOf ls s
  w0 : 0 ≤ wordOf ls s
  w1 : wordOf ls s < 2 ^ lenOf ls s
def wd (ls : List Int) (s : Nat) : Int × Int := if 0 < lenOf ls s then (wordOf ls s, (lenOf ls s : Int)) else (0, 0)
def wordsK (ls : List Int) (k : Nat) : List (Int × Int) := (List.range ls.length).map (fun s : Nat => if (s : Int) ∈ (ord ls).take k then wd ls s else (0, 0))
def words (ls : List Int) : List (Int × Int) := (List.range ls.length).map (wd ls)
theorem ok_take {ls : List Int} {k : Nat} (h : ∀ i, i < k → 0 ≤ ls.getD i 0 ∧ ls.getD i 0 ≤ 15) (hk : ls.length ≤ k) : ∀ x ∈ ls, 0 ≤ x ∧ x ≤ 15 := by
  intro x hx
  obtain ⟨i, hi⟩ := List.getElem?_of_mem hx
  have hlt := (List.getElem?_eq_some_iff.1 hi).1
  have := h i (by omega)
  simpa [List.getD_eq_getElem?_getD, hi] using this
theorem cntL_bound {ls : List Int} (h : ls.length ≤ 320) : ∀ i, 0 ≤ (cntL ls).getD i 0 ∧ (cntL ls).getD i 0 ≤ 320 := by
  intro i
  rcases Nat.lt_or_ge i 16 with hi | hi
  · rw [cntL_get hi]
    have := cnt_nonneg ls i
    have := cnt_le ls i
    omega
  · rw [List.getD_eq_getElem?_getD, List.getElem?_eq_none (by rw [cntL_len]; exact hi)]
    simp
theorem ok_snoc {ls : List Int} {k : Nat} (hok : ∀ i, i < k → 0 ≤ ls.getD i 0 ∧ ls.getD i 0 ≤ 15) (h : 0 ≤ ls.getD k 0 ∧ ls.getD k 0 ≤ 15) : ∀ i, i < k + 1 → 0 ≤ ls.getD i 0 ∧ ls.getD i 0 ≤ 15 := by
  intro i hi
  by_cases e : i = k
  · subst e; exact h
  · exact hok i (by omega)
theorem posn_nil : posn [] = [] := rfl
theorem newE_long {ls : List Int} (h : 320 < ls.length) : newE ls = 1 := if_pos h
theorem newE_bad {ls : List Int} {k : Nat} (h : ¬ 320 < ls.length) (hk : k < ls.length) (hb : ls.getD k 0 < 0 ∨ 15 < ls.getD k 0) : newE ls = 1 := by
  unfold newE
  rw [if_neg h, if_neg]
  intro ho
  unfold okB at ho
  rw [List.all_eq_true] at ho
  have := ho (ls.getD k 0) (by simp [List.getD_eq_getElem?_getD, hk])
  simp only [decide_eq_true_eq] at this
  omega
theorem newE_ok {ls : List Int} (h : ¬ 320 < ls.length) (hv : ∀ x ∈ ls, 0 ≤ x ∧ x ≤ 15) : newE ls = if wholeB (cntL ls) ((posn ls).length : Int) = true then 0 else 4 := by
  unfold newE
  rw [if_neg h, if_pos]
  unfold okB
  rw [List.all_eq_true]
  intro x hx
  simpa using hv x hx
def lkW (ls : List Int) (x : Int) : Int := if 0 ≤ x ∧ x < ls.length then (wd ls x.toNat).1 else 0
def lkN (ls : List Int) (x : Int) : Int := if 0 ≤ x ∧ x < ls.length then (wd ls x.toNat).2 else 0
def lkB (ls : List Int) (x : Int) : Bool := decide (0 ≤ x ∧ x < ls.length ∧ (wd ls x.toNat).2 ≠ 0)
end Go.HuffP
namespace Go.HuffP
def cntZ (ls : List Int) : List Int := (List.range 16).map (fun n => ((cls ls n).length : Int))
theorem cntZ_len (ls : List Int) : (cntZ ls).length = 16 := by simp [cntZ]
theorem cntZ_get {ls : List Int} {n : Nat} (h : n < 16) : (cntZ ls).getD n 0 = ((cls ls n).length : Int) := by simp [cntZ, List.getD_eq_getElem?_getD, h]
theorem cntZ_nil : cntZ [] = List.replicate 16 0 := by
  unfold cntZ
  simp only [cls_zero]
  rfl
theorem cntZ_bound {ls : List Int} (h : ls.length ≤ 320) : ∀ i, 0 ≤ (cntZ ls).getD i 0 ∧ (cntZ ls).getD i 0 ≤ 320 := by
  intro i
  rcases Nat.lt_or_ge i 16 with hi | hi
  · rw [cntZ_get hi]
    have := cls_len_le ls i
    omega
  · rw [List.getD_eq_getElem?_getD, List.getElem?_eq_none (by rw [cntZ_len]; exact hi)]
    simp
theorem cntZ_snoc {ls : List Int} {k : Nat} {x : Int} (h : k < ls.length) (hx : x = ls[k]) (h1 : 0 ≤ x) (h2 : x ≤ 15) : (cntZ (ls.take k)).set x.toNat ((cntZ (ls.take k)).getD x.toNat 0 + 1) = cntZ (ls.take (k + 1)) := by
  subst hx
  symm
  apply List.ext_getElem?
  intro i
  by_cases hi : i < 16
  · rw [List.getElem?_set]
    by_cases he : ls[k].toNat = i
    · rw [if_pos he, if_pos (by rw [cntZ_len]; omega), he, cntZ_get hi]
      simp only [cntZ, List.getElem?_map, List.getElem?_range hi, Option.map_some]
      rw [cls_snoc h, if_pos (by omega)]
      simp
    · rw [if_neg he]
      simp only [cntZ, List.getElem?_map, List.getElem?_range hi, Option.map_some]
      rw [cls_snoc h, if_neg (by omega), List.append_nil]
  · rw [List.getElem?_eq_none (by rw [cntZ_len]; omega), List.getElem?_eq_none (by rw [List.length_set, cntZ_len]; omega)]
theorem cntZ_set (ls : List Int) : (cntZ ls).set (0 : Int).toNat 0 = cntL ls := by
  apply List.ext_getElem?
  intro i
  rw [show (0 : Int).toNat = 0 from rfl, List.getElem?_set]
  by_cases he : 0 = i
  · subst he
    rw [if_pos rfl, if_pos (by rw [cntZ_len]; omega)]
    rfl
  · rw [if_neg he]
    by_cases hi : i < 16
    · simp only [cntZ, cntL, List.getElem?_map, List.getElem?_range hi, Option.map_some]
      unfold cnt
      rw [if_neg (by omega)]
    · rw [List.getElem?_eq_none (by rw [cntZ_len]; omega), List.getElem?_eq_none (by rw [cntL_len]; omega)]
theorem take_snoc {ls : List Int} {k : Nat} {x : Int} (h : k < ls.length) (hx : x = ls[k]) : ls.take k ++ [x] = ls.take (k + 1) := by
  subst hx; exact (List.take_succ_eq_append_getElem h).symm
theorem many_pos {ls : List Int} {k : Nat} {x : Int} (h : k < ls.length) (hx : x = ls[k]) (h0 : 0 < x) : ((posn (ls.take k)).length : Int) + 1 = ((posn (ls.take (k + 1))).length : Int) := by
  rw [posn_snoc h, if_pos (by omega)]; simp
theorem many_zero {ls : List Int} {k : Nat} {x : Int} (h : k < ls.length) (hx : x = ls[k]) (h0 : x ≤ 0) : ((posn (ls.take k)).length : Int) = ((posn (ls.take (k + 1))).length : Int) := by
  rw [posn_snoc h, if_neg (by omega)]; simp
def sy (ls : List Int) (m i : Nat) : List Int := ordN ls m ++ cls (ls.take i) (m + 1)
theorem sy_zero (ls : List Int) (m : Nat) : sy ls m 0 = ordN ls m := by simp [sy, cls_zero]
theorem sy_all {ls : List Int} {m i : Nat} (h : ls.length ≤ i) : sy ls m i = ordN ls (m + 1) := by simp [sy, ordN, List.take_of_length_le h]
theorem sy_yes {ls : List Int} {m i : Nat} {x : Int} (h : i < ls.length) (hx : x = ls[i]) (he : x = (m : Int) + 1) : sy ls m i ++ [(i : Int)] = sy ls m (i + 1) := by
  unfold sy
  rw [cls_snoc h, if_pos (by rw [← hx, he]; rfl), List.append_assoc]
theorem sy_len {ls : List Int} {m i : Nat} {x : Int} (h : i < ls.length) (hx : x = ls[i]) (he : x = (m : Int) + 1) : (sy ls m i).length + 1 = (sy ls m (i + 1)).length := by
  rw [← sy_yes h hx he]; simp
theorem sy_no {ls : List Int} {m i : Nat} {x : Int} (h : i < ls.length) (hx : x = ls[i]) (he : ¬ x = (m : Int) + 1) : sy ls m i = sy ls m (i + 1) := by
  unfold sy
  rw [cls_snoc h, if_neg (by rw [← hx]; exact he), List.append_nil]
theorem ord15 (ls : List Int) : ordN ls 15 = ord ls := rfl
theorem ordN_le (ls : List Int) : ∀ n, (ordN ls n).length ≤ n * ls.length
  | 0 => by simp [ordN]
  | n + 1 => by
    have := ordN_le ls n
    have := cls_len_le ls (n + 1)
    simp only [ordN, List.length_append]
    rw [Nat.succ_mul]
    omega
theorem sy_le {ls : List Int} {m i : Nat} (hm : m ≤ 15) (hl : ls.length ≤ 320) : (sy ls m i).length ≤ 10000 := by
  have h1 := ordN_le ls m
  have h2 := cls_len_le (ls.take i) (m + 1)
  have h3 : m * ls.length ≤ 15 * 320 := Nat.mul_le_mul hm hl
  have h4 : (ls.take i).length ≤ ls.length := by rw [List.length_take]; omega
  simp only [sy, List.length_append]
  omega
end Go.HuffP
namespace Go.HuffP
def bk (ls : List Int) (n : Nat) : Nat → Int
  | 0 => base ls n
  | k + 1 => bk ls n k + 1
structure Sy (ls : List Int) (x : Int) (L r : Nat) : Prop where
  one : 1 ≤ L
  top : L ≤ 15
  lt : r < (cls ls L).length
  get : (cls ls L).getD r 0 = x
  w : lkW ls x = base ls L + (r : Int)
  n : lkN ls x = (L : Int)
  b : lkB ls x = true
end Go.HuffP
namespace Go.Sl
end Go.Sl
namespace Go.HuffP
theorem base_ge (ls : List Int) {m n : Nat} (h : m < n) : (base ls m + cnt ls m) * 2 ^ (n - m) ≤ base ls n := by
  induction n with
  | zero => omega
  | succ n ih =>
    have hc := cnt_nonneg ls n
    by_cases e : m = n
    · subst e
      rw [show m + 1 - m = 1 by omega]
      simp only [base]
      omega
    · have := ih (by omega)
      simp only [base]
      rw [show n + 1 - m = (n - m) + 1 by omega, Int.pow_succ, ← Int.mul_assoc]
      omega
structure Pf (ls : List Int) (i k : Int) : Prop where
  n1 : 1 ≤ lkN ls i
  n2 : lkN ls i ≤ 15
  m1 : 1 ≤ lkN ls k
  m2 : lkN ls k ≤ 15
  a0 : 0 ≤ lkW ls i
  a1 : lkW ls i < 32768
  b0 : 0 ≤ lkW ls k
  b1 : lkW ls k < 32768
  ge : lkN ls k ≤ lkN ls i → lkW ls k < (lkW ls i).fdiv (2 ^ (lkN ls i - lkN ls k).toNat)
  lt : lkN ls i < lkN ls k → lkW ls i < (lkW ls k).fdiv (2 ^ (lkN ls k - lkN ls i).toNat)
theorem far {ls : List Int} {m n r s : Nat} (h : m < n) (hm : 1 ≤ m) (hr : r < (cls ls m).length) : base ls m + (r : Int) < (base ls n + (s : Int)).fdiv (2 ^ (n - m)) := by
  have h1 := base_ge ls h
  have hc : cnt ls m = ((cls ls m).length : Int) := by unfold cnt; rw [if_neg (by omega)]
  have hp : (0 : Int) < 2 ^ (n - m) := Int.pow_pos (by decide)
  rw [Int.fdiv_eq_ediv_of_nonneg _ (Int.le_of_lt hp)]
  have : base ls m + cnt ls m ≤ (base ls n + (s : Int)) / 2 ^ (n - m) := by
    rw [Int.le_ediv_iff_mul_le hp]
    omega
  omega
def fullK (ls : List Int) : Nat → Int
  | 0 => 0
  | k + 1 => fullK ls k + (if 0 < ls.getD k 0 then 2 ^ (15 - lenOf ls k) else 0)
end Go.HuffP
namespace Go.BitP
def acc (B : List Int) (at_ : Nat) : Nat → Int
  | 0 => 0
  | n + 1 => 2 * acc B at_ n + bitL B (at_ + n)
end Go.BitP
namespace Go.HuffP
open Go.BitP
inductive TR where
  | hit (n : Nat) (s : Int)
  | short (n : Nat)
  | none_ (n : Nat)
def tkGo (ls B : List Int) (at_ : Nat) : Nat → Nat → TR
  | 0, n => .none_ n
  | r + 1, n => if at_ + n < 8 * B.length then (if acc B at_ (n + 1) - base ls (n + 1) < cnt ls (n + 1) then .hit (n + 1) ((ord ls).getD (off ls (n + 1) + (acc B at_ (n + 1) - base ls (n + 1)).toNat) 0) else tkGo ls B at_ r (n + 1)) else .short n
def mst (ls : List Int) : Nat := (mostL ls).toNat
def tk (ls B : List Int) (at_ : Nat) : TR := tkGo ls B at_ (mst ls) 0
structure Tk (ls B : List Int) (at_ n : Nat) : Prop where
  le : n ≤ mst ls
  eq : tk ls B at_ = tkGo ls B at_ (mst ls - n) n
  ge : base ls n + cnt ls n ≤ acc B at_ n
  room : at_ + n ≤ 8 * B.length
section
variable {ls B : List Int} {at_ n : Nat}
end
end Go.HuffP
namespace Go.BitP
structure Pk (bs out : List Int) (fr : Nat) : Prop where
  le : fr ≤ 8
  len : 8 * out.length = bs.length + fr
  byt : Byt out
  get : ∀ i, i < bs.length → bitL out i = bs.getD i 0
  zero : ∀ i, bs.length ≤ i → bitL out i = 0
def orB (x b : Int) (p : Nat) : Int := ((x.toNat ||| b.toNat * 2 ^ p : Nat) : Int)
end Go.BitP
namespace Go.HuffP
open Go.BitP
def wb (ls : List Int) (s : Int) : List Int := (List.range (lkN ls s).toNat).map (fun i => lkW ls s / 2 ^ ((lkN ls s).toNat - 1 - i) % 2)
def ins (ls syms : List Int) : List Int := (syms.map (· % 330)).filter (fun s => decide (s < ls.length) && lkB ls s)
def bits (ls : List Int) (l : List Int) : List Int := l.flatMap (wb ls)
end Go.HuffP
namespace Go.BitP
def lowB (x : Int) (n : Nat) : List Int := (List.range n).map (fun i => x / 2 ^ i % 2)
end Go.BitP
namespace Go.InfP
open Go.BitP Go.HuffP
structure St where
  at_ : Nat
  out : List Int
  kind : Int
  left : Nat
  last : Bool
  lits : List Int
  dist : List Int
  copies : Nat
  far : Nat
  ended : Bool
def fixL : List Int := List.replicate 144 8 ++ List.replicate 112 9 ++ List.replicate 24 7 ++ List.replicate 8 8
def fixD : List Int := List.replicate 32 5
def sym (ls B : List Int) (a : Nat) : Except Int (Int × Nat) := match tk ls B a with
  | .hit n s => .ok (s, a + n)
  | .short _ => .error 2
  | .none_ _ => .error 4
def alg (a : Nat) : Nat := (a + 7) / 8 * 8
def ordr : List Int := [16, 17, 18, 0, 8, 7, 9, 6, 10, 5, 11, 4, 12, 3, 13, 2, 14, 1, 15]
def frs (B : List Int) (a : Nat) : Nat → List Int
  | 0 => List.replicate 19 0
  | i + 1 => (frs B a i).set (ordr.getD i 0).toNat (numL B (a + 3 * i) 3)
def rpB (s : Int) : Nat := if s = 16 then 2 else if s = 17 then 3 else 7
def rpL (s : Int) : Int := if s = 18 then 11 else 3
def rpW (s : Int) (l : List Int) : Int := if s = 16 then l.getD (l.length - 1) 0 else 0
def rep (B : List Int) (s : Int) (l : List Int) (a : Nat) : Except Int (Int × Int × Nat) :=
  if s < 16 then .ok (s, 1, a) else if 8 * B.length < a + rpB s then .error 2 else if s = 16 ∧ l = [] then .error 4 else .ok (rpW s l, rpL s + numL B a (rpB s), a + rpB s)
def lnStep (B c l : List Int) (a : Nat) : Except Int (List Int × Nat) := match sym c B a with
  | .error e => .error e
  | .ok (s, a) => match rep B s l a with
    | .error e => .error e
    | .ok (x, n, a) => .ok (l ++ List.replicate n.toNat x, a)
def lnGo (B c : List Int) (tot : Nat) : Nat → List Int → Nat → Except Int (List Int × Nat)
  | 0, l, a => .ok (l, a)
  | f + 1, l, a => if l.length < tot then (match lnStep B c l a with
    | .error e => .error e
    | .ok (l', a') => if l'.length ≤ tot then lnGo B c tot f l' a' else .error 4) else .ok (l, a)
def hL (B : List Int) (a : Nat) : Nat := 257 + (numL B a 5).toNat
def hD (B : List Int) (a : Nat) : Nat := 1 + (numL B (a + 5) 5).toNat
def hC (B : List Int) (a : Nat) : Nat := 4 + (numL B (a + 10) 4).toNat
def told (B : List Int) (a : Nat) : Except Int (Nat × List Int × List Int) :=
  if 8 * B.length < a + 14 then .error 2 else
  if ¬ (hL B a ≤ 286 ∧ hD B a ≤ 30) then .error 4 else
  if 8 * B.length < a + 14 + 3 * hC B a then .error 2 else
  if newE (frs B (a + 14) (hC B a)) ≠ 0 then .error 4 else
  match lnGo B (frs B (a + 14) (hC B a)) (hL B a + hD B a) (hL B a + hD B a) [] (a + 14 + 3 * hC B a) with
  | .error e => .error e
  | .ok (l, a') => if newE (l.take (hL B a)) ≠ 0 ∨ newE (l.drop (hL B a)) ≠ 0 ∨ l.getD 256 0 = 0 then .error 4 else .ok (a', l.take (hL B a), l.drop (hL B a))
def begin_ (B : List Int) (s : St) : Except Int St :=
  if 8 * B.length < s.at_ + 3 then .error 2 else
  if numL B (s.at_ + 1) 2 = 0 then
    (if 8 * B.length < alg (s.at_ + 3) + 32 then .error 2 else
     if numL B (alg (s.at_ + 3)) 16 = 65535 - numL B (alg (s.at_ + 3) + 16) 16 then .ok { s with at_ := alg (s.at_ + 3) + 32, kind := 0, left := (numL B (alg (s.at_ + 3)) 16).toNat, last := decide (numL B s.at_ 1 = 1) } else .error 4) else
  if numL B (s.at_ + 1) 2 = 1 then .ok { s with at_ := s.at_ + 3, kind := 1, last := decide (numL B s.at_ 1 = 1), lits := fixL, dist := fixD } else
  if numL B (s.at_ + 1) 2 = 2 then (match told B (s.at_ + 3) with
    | .error e => .error e
    | .ok (a, l, d) => .ok { s with at_ := a, kind := 2, last := decide (numL B s.at_ 1 = 1), lits := l, dist := d }) else .error 4
def lnB (s : Int) : Int := if s < 8 then 3 + s else if s = 28 then 258 else 3 + (4 + s % 4) * 2 ^ (s / 4 - 1).toNat
def lnM (s : Int) : Nat := if s < 8 ∨ s = 28 then 0 else (s / 4 - 1).toNat
def dsB (d : Int) : Int := if d < 4 then 1 + d else 1 + (2 + d % 2) * 2 ^ (d / 2 - 1).toNat
def dsM (d : Int) : Nat := if d < 4 then 0 else (d / 2 - 1).toNat
def put_ (most : Int) (s : St) (y : Int) : Except Int St := if (s.out.length : Int) < most then .ok { s with out := s.out ++ [y] } else .error 6
def coded (B : List Int) (most : Int) (s : St) : Except Int St := match sym s.lits B s.at_ with
  | .error e => .error e
  | .ok (y, a) =>
    if y < 256 then put_ most { s with at_ := a } y else
    if y = 256 then .ok { s with at_ := a, kind := -1, ended := s.last } else
    if 286 ≤ y then .error 4 else
    if 8 * B.length < a + lnM (y - 257) then .error 2 else
    match sym s.dist B (a + lnM (y - 257)) with
    | .error e => .error e
    | .ok (d, a3) => if 30 ≤ d then .error 4 else if 8 * B.length < a3 + dsM d then .error 2 else
      if dsB d + numL B a3 (dsM d) ≤ s.out.length then .ok { s with at_ := a3 + dsM d, copies := (lnB (y - 257) + numL B a (lnM (y - 257))).toNat, far := (dsB d + numL B a3 (dsM d)).toNat } else .error 4
def one (B : List Int) (most : Int) (s : St) : Except Int St :=
  if 0 < s.copies then put_ most { s with copies := s.copies - 1 } (s.out.getD (s.out.length - s.far) 0) else
  if s.kind = -1 then begin_ B s else
  if s.kind ≠ 0 then coded B most s else
  if s.left = 0 then .ok { s with kind := -1, ended := s.last } else
  if 8 * B.length < s.at_ + 8 then .error 2 else put_ most { s with at_ := s.at_ + 8, left := s.left - 1 } (numL B s.at_ 8)
def start : St := ⟨0, [], -1, 0, false, [], [], 0, 0, false⟩
abbrev Oc := Except Int (List Int × Nat)
inductive Runs (B : List Int) (most : Int) : St → Oc → Prop
  | done {s : St} : s.ended = true → Runs B most s (.ok (s.out, (s.at_ + 7) / 8))
  | step {s s' : St} {o : Oc} : s.ended = false → one B most s = .ok s' → Runs B most s' o → Runs B most s o
  | fail {s : St} {e : Int} : s.ended = false → one B most s = .error e → Runs B most s (.error e)
def Goes (B : List Int) (most : Int) (s s' : St) : Prop := ∀ o, Runs B most s' o → Runs B most s o
def codeE (ls : List Int) : Except Int Unit := if newE ls = 0 then .ok () else .error 4
section
variable {B l : List Int} {s : Int} {a : Nat}
end
def fixT : List (Int × Int) := [(8, 144), (9, 112), (7, 24), (8, 8)]
def fixK : Nat → List Int
  | 0 => []
  | k + 1 => fixK k ++ List.replicate (fixT.getD k (0, 0)).2.toNat (fixT.getD k (0, 0)).1
end Go.InfP

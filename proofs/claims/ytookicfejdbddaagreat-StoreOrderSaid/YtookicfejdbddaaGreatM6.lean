/- Walks of functions that the law reaches, and what they lean on; no conditions. -/
import Derived.Test.YtookicfejdbddaaGreatM4
import Derived.Test.YtookicfejdbddaaGreatM3
set_option linter.unusedVariables false
set_option linter.unusedSimpArgs false
set_option linter.unnecessarySimpa false
set_option maxRecDepth 100000
namespace Go.BitP
def Byt (B : List Int) : Prop := ∀ x ∈ B, 0 ≤ x ∧ x < 256
theorem Byt.get {B : List Int} (h : Byt B) (i : Nat) : 0 ≤ B.getD i 0 ∧ B.getD i 0 < 256 := by
  rcases Nat.lt_or_ge i B.length with hi | hi
  · exact h _ (by simp [List.getD_eq_getElem?_getD, hi])
  · simp [List.getD_eq_getElem?_getD, hi]
def bitL (B : List Int) (i : Nat) : Int := B.getD (i / 8) 0 / 2 ^ (i % 8) % 2
def numL (B : List Int) (at_ : Nat) : Nat → Int
  | 0 => 0
  | n + 1 => numL B at_ n + bitL B (at_ + n) * 2 ^ n
end Go.BitP
namespace Go.Sl
end Go.Sl
namespace Go.Sl
section
variable {C : Ctx} {Q : QT} {E : Env} {L : List HProp} {ops : Array Oper} {rest : List Oper} {d : Nat} {ty : TypeId} {pos : String} {aft : Array Edge}
theorem num_map (l : List Int) (h : ∀ x ∈ l, 0 ≤ x ∧ x < 256) : (strOfNums l).data.toList.map (fun b => Value.int .u8 b.toNat) = l.map (Value.int .u8) := by
  unfold strOfNums
  simp only [List.map_map]
  refine List.map_congr_left fun x hx => ?_
  have := h x hx
  simp only [Function.comp_apply, UInt8.toNat_ofNat', Value.int.injEq, true_and]
  rw [Nat.mod_eq_of_lt (by omega)]
  omega
theorem num_inj {l m : List Int} (hl : ∀ x ∈ l, 0 ≤ x ∧ x < 256) (hm : ∀ x ∈ m, 0 ≤ x ∧ x < 256) (h : strOfNums l = strOfNums m) : l = m := by
  have e := num_map l hl
  rw [h, num_map m hm] at e
  exact (List.map_inj_right (fun x y e => by cases e; rfl)).1 e.symm
theorem num_size (l : List Int) : (strOfNums l).size = l.length := by simp [strOfNums, ByteArray.size]
theorem x_appendS {s x : Operand} {t tS e sz by_ n m cap : Nat} {p : Option Addr} {vs ws zs : List Value} {u : ByteArray} {F : List HProp}
    (ht : sliceB C.P t = some (e, sz, by_)) (hS : C.P.underlying tS = some .string) (hz : zeroB C.P e = some zs) (hs1 : sz = 1) (hby : Nat.ble 1 by_ = true)
    (hs : evalE E s = some (.slice p n cap)) (hx : evalE E x = some (.string u)) (hu : u.data.toList.map (fun b => Value.int .u8 b.toNat) = ws) (hum : u.size = m)
    (hL : Rem L (Sl p n cap e sz vs) F) (hb : (n + m) * by_ ≤ 140737488355328) :
    OpX C (.call ⟨.builtin .append, [s, x].toArray, #[t, tS]⟩) ty E L (fun v L' => ∃ p' cap', v = .slice p' (n + m) cap' ∧ L' = Sl p' (n + m) cap' e sz (vs ++ ws) :: F) := by
  intro d pos aft g a w K Qx ha hi hK
  obtain ⟨ht1, i, hi2, rfl, rfl⟩ := slice_spec ht
  obtain ⟨i', z, hz1, hz2, hz3, hz4⟩ := zero_spec hz
  rw [hi2] at hz1
  cases hz1
  have hby := Nat.le_of_ble_eq_true hby
  have hnm : n + m ≤ (n + m) * i.bytes := Nat.le_mul_of_pos_right _ hby
  have hsmall : n + m ≤ 140737488355328 := by omega
  have hwl : ws.length = m * i.size := by rw [← hu, hs1, Nat.mul_one, ← hum, List.length_map, Array.length_toList]; rfl
  obtain ⟨consts, hrun⟩ := run_resolve_builtin (C := C) (ty := ty) (pos := pos) (aft := aft) (b := .append) (xs := [s, x]) (tys := #[t, tS]) (vs := [.slice p n cap, .string u]) (a := a) (by simp [ha.eval hs, ha.eval hx]) d g w
  suffices h : ∃ p' cap' w', (Builtin.append_ #[t, tS] ty #[.slice p n cap, .string u]).run C.P w = .ok (.slice p' (n + m) cap') w' ∧ Inv C.w0 (Sl p' (n + m) cap' e i.size (vs ++ ws) :: F) w' by
    obtain ⟨p', cap', w', hr, hi'⟩ := h
    unfold Oper.wp
    rw [hrun]
    simp only [builtin, Sem.run_bind, hr, Result.andThen_ok, Sem.run_pure]
    exact hK _ _ _ ⟨p', cap', rfl, rfl⟩ hi'
  have hfirst : ∀ w1 : World, (Builtin.firstCells i.size m (.string u)).run C.P w1 = .ok ws.toArray w1 := by
    intro w1
    have e0 : u.extract 0 m = u := by
      rw [← hum]
      exact ByteArray.extract_zero_size
    simp only [Builtin.firstCells, e0, Sem.run_pure]
    congr 1
    apply Array.ext'
    simp [← hu]
  have hall : ∀ y ∈ ws, y.oneCell' = true := fun y hy => by
    rw [← hu] at hy
    obtain ⟨b, _, rfl⟩ := List.mem_map.1 hy
    rfl
  have hgrow : ∀ (vs0 : List Value), vs0 = vs → n * i.size = vs.length → cap < n + m →
      (∀ w1 : World, (∀ q, w1.cell? q = w.cell? q) → (Builtin.firstCells i.size n (.slice p n cap)).run C.P w1 = .ok vs.toArray w1) →
      Inv C.w0 F w →
      ∃ p' cap' w', (Builtin.append_ #[t, tS] ty #[.slice p n cap, .string u]).run C.P w = .ok (.slice p' (n + m) cap') w' ∧ Inv C.w0 (Sl p' (n + m) cap' e i.size (vs ++ ws) :: F) w' := by
    intro vs0 _ hvl hlt hold hiF
    have hfit : Builtin.nextslicecap (n + m) cap * i.bytes ≤ 281474976710656 := growslice_fits hlt hb
    have h63 : ¬ (9223372036854775807 < ((n : Int) + (m : Int))) := by omega
    have h48 : ¬ (281474976710656 < Builtin.nextslicecap (n + m) cap * i.bytes) := by omega
    have hng : ¬ (n + m ≤ cap) := by omega
    refine ⟨some ⟨w.heap.size, 0, none⟩, grownCap w (n + m) cap e, w.drew.alloc (.cells (vs ++ ws ++ (Builtin.zeroCells z.cells (grownCap w (n + m) cap e - (n + m))).toList).toArray e), ?_, ?_⟩
    · have e1 := hold w.drew (fun q => by simp)
      have e2 := hfirst w.drew
      have harr : ∀ Z : Array Value, (vs ++ ws ++ Z.toList).toArray = vs.toArray ++ ws.toArray ++ Z := fun Z => by apply Array.ext'; simp
      rw [harr]
      simp [Builtin.append_, run_underlying ht1, run_underlying hS, sizeOf, typeInfo, zeroValue, hi2, hz2, Builtin.lenOf, hum, hng, h63, h48, Question.forced, e1, e2, newRow, grownCap]
      congr 1
      congr 1
      apply Array.ext'
      simp
    · have hge := grownCap_ge w (n + m) cap e
      refine Inv.imp ?_ (hiF.drew.alloc e (vs ++ ws ++ (Builtin.zeroCells z.cells (grownCap w (n + m) cap e - (n + m))).toList))
      intro h hc
      refine .inr ⟨_, 0, [], (Builtin.zeroCells z.cells (grownCap w (n + m) cap e - (n + m))).toList, rfl, by simpa using hc, rfl, ?_, ?_, hge⟩
      · simp [← hvl, hwl, Nat.add_mul]
      · have : z.cells.size = i.size := by rw [hz3, hz4]; simp
        simp [size_zeroCells, this]
  obtain ⟨zz, hzz, hi1⟩ := (hi.perm hL.perm).opn (Sl.open_ C.w0)
  cases zz with
  | none =>
    obtain ⟨rfl, rfl, rfl, rfl⟩ := hzz
    by_cases hm0 : m = 0
    · subst hm0
      simp at hwl
      subst hwl
      refine ⟨none, 0, w, ?_, (hi1.sl_nil e i.size)⟩
      have e1 := hfirst w
      simp [Builtin.append_, run_underlying ht1, run_underlying hS, sizeOf, typeInfo, hi2, Builtin.lenOf, hum, e1]
    · exact hgrow [] rfl (by simp) (by omega) (fun w1 _ => by simp [Builtin.firstCells]) hi1
  | some zz =>
    obtain ⟨b, o, pre, post⟩ := zz
    obtain ⟨rfl, e1, e2, e3, e4⟩ := hzz
    by_cases hroom : n + m ≤ cap
    · have hfit : o + n * i.size + ws.length ≤ (pre ++ vs ++ post).length := by
        have : (n + m - n) * i.size ≤ (cap - n) * i.size := Nat.mul_le_mul_right _ (by omega)
        rw [show n + m - n = m by omega] at this
        simp only [List.length_append, e1, e2, hwl]
        omega
      obtain ⟨w', hr, hi'⟩ := run_storeCells (C := C) ws (o + n * i.size) 0 _ _ w hall (by simpa using hfit) hi1
      refine ⟨some ⟨b, o, none⟩, cap, w', ?_, ?_⟩
      · have hf := hfirst w
        simp [Builtin.append_, run_underlying ht1, run_underlying hS, sizeOf, typeInfo, hi2, Builtin.lenOf, hum, hroom, hf, Addr.add_mk, hr]
      · refine Inv.cls (B := [Cel b e (pre ++ (vs ++ ws) ++ post.drop ws.length)]) (fun h hc => Sl.mk hc e1 (by simp [e2, hwl, Nat.add_mul]) ?_ hroom) ?_
        · simp only [List.length_drop, hwl]
          have : (cap - (n + m)) * i.size = (cap - n) * i.size - m * i.size := by rw [← Nat.sub_mul]; congr 1; omega
          omega
        · have e5 : (pre ++ vs ++ post).take (o + n * i.size + 0) = pre ++ vs := by
            rw [Nat.add_zero]
            exact List.take_left' (by simp [e1, e2])
          have e6 : (pre ++ vs ++ post).drop (o + n * i.size + 0 + ws.length) = post.drop ws.length := by
            rw [Nat.add_zero, show o + n * i.size + ws.length = (pre ++ vs).length + ws.length by simp [e1, e2]]
            rw [← List.drop_drop, List.drop_left]
          rw [e5, e6] at hi'
          simpa [List.append_assoc] using hi'
    · refine hgrow vs rfl e2.symm (by omega) (fun w1 hw1 => ?_) hi1.tail
      refine run_firstCells_some (P := C.P) w1 i.size n _ n cap vs e2 (fun j v hj => ?_)
      have hlt := (List.getElem?_eq_some_iff.1 hj).1
      rw [hw1, Addr.add_mk, Inv.cel_cell hi1]
      rw [List.append_assoc, List.getElem?_append_right (by omega), show o + j - pre.length = j by omega, List.getElem?_append_left hlt]
      exact hj
theorem ba_ne {l m : List Int} (hl : ∀ x ∈ l, 0 ≤ x ∧ x < 256) (hm : ∀ x ∈ m, 0 ≤ x ∧ x < 256) (h : l ≠ m) : ((strOfNums l).toList == (strOfNums m).toList) = false := by
  refine beq_eq_false_iff_ne.2 fun e => h (num_inj hl hm ?_)
  exact ByteArray.ext (Array.ext' (by rw [← ByteArray.toList_eq, ← ByteArray.toList_eq, e]))
end
end Go.Sl
namespace Go.StS
variable {α : Type}
structure Rl (key : α → Int) (d : α) (l l' : List α) (a b : Nat) : Prop where
  len : l'.length = l.length
  out : ∀ i, i < a ∨ b ≤ i → l'.getD i d = l.getD i d
  mem : ∀ i, a ≤ i → i < b → ∃ j, a ≤ j ∧ j < b ∧ l'.getD i d = l.getD j d
  same : ∀ c, l'.filter (fun x => decide (key x = c)) = l.filter (fun x => decide (key x = c))
def Sd (key : α → Int) (d : α) (l : List α) (a b : Nat) : Prop := ∀ i j, a ≤ i → i ≤ j → j < b → key (l.getD i d) ≤ key (l.getD j d)
variable {key : α → Int} {d : α}
end Go.StS
namespace Go.StS
variable {α : Type} {key : α → Int} {d : α}
def Ins (key : α → Int) (d : α) (l : List α) (a j i : Nat) : Prop := ∀ x y, a ≤ x → x ≤ y → y ≤ i → y ≠ j → key (l.getD x d) ≤ key (l.getD y d)
end Go.StS
namespace Go.StS
variable {α : Type} {key : α → Int} {d : α}
structure Mv (key : α → Int) (d : α) (l l2 : List α) (a b k : Nat) : Prop where
  rl : Rl key d l l2 a b
  at_ : l2.getD k d = l.getD a d
  lo : ∀ x, a ≤ x → x < k → l2.getD x d = l.getD (x + 1) d
  hi : ∀ x, k < x → l2.getD x d = l.getD x d
structure Mw (key : α → Int) (d : α) (l l2 : List α) (a b m k : Nat) : Prop where
  rl : Rl key d l l2 a b
  at_ : l2.getD k d = l.getD m d
  hi : ∀ x, k < x → x ≤ m → l2.getD x d = l.getD (x - 1) d
  lo : ∀ x, x < k → l2.getD x d = l.getD x d
  up : ∀ x, m < x → l2.getD x d = l.getD x d
structure Parts (key : α → Int) (d : α) (l l1 : List α) (a s mid e b : Nat) : Prop where
  rl : Rl key d l l1 a b
  s1 : Sd key d l1 a s
  s2 : Sd key d l1 s mid
  s3 : Sd key d l1 mid e
  s4 : Sd key d l1 e b
  cr : ∀ i j, a ≤ i → i < mid → mid ≤ j → j < b → key (l1.getD i d) ≤ key (l1.getD j d)
end Go.StS
namespace Go.StS
variable {α : Type} {key : α → Int} {d : α}
def Bk (key : α → Int) (d : α) (l : List α) (s n : Nat) : Prop := ∀ x, s ∣ x → Sd key d l x (min (x + s) n)
def Bd (key : α → Int) (d : α) (l : List α) (s A : Nat) : Prop := ∀ x, s ∣ x → x + s ≤ A → Sd key d l x (x + s)
def Br (key : α → Int) (d : α) (l : List α) (s n A : Nat) : Prop := ∀ x, s ∣ x → A ≤ x → Sd key d l x (min (x + s) n)
end Go.StS
namespace Go.HuffP
def cls (ls : List Int) (n : Nat) : List Int := ((List.range ls.length).filter (fun i => decide (ls.getD i 0 = (n : Int)))).map (fun i : Nat => (i : Int))
def ordN (ls : List Int) : Nat → List Int
  | 0 => []
  | n + 1 => ordN ls n ++ cls ls (n + 1)
def ord (ls : List Int) : List Int := ordN ls 15
def off (ls : List Int) : Nat → Nat
  | 0 => 0
  | n + 1 => (ordN ls n).length
def cnt (ls : List Int) (n : Nat) : Int := if n = 0 then 0 else ((cls ls n).length : Int)
def cntL (ls : List Int) : List Int := (List.range 16).map (cnt ls)
def base (ls : List Int) : Nat → Int
  | 0 => 0
  | n + 1 => 2 * (base ls n + cnt ls n)
def lenOf (ls : List Int) (s : Nat) : Nat := (ls.getD s 0).toNat
def wordOf (ls : List Int) (s : Nat) : Int := base ls (lenOf ls s) + ((cls (ls.take s) (lenOf ls s)).length : Int)
def Vl (ls : List Int) : Prop := ls.length ≤ 320 ∧ ∀ x ∈ ls, 0 ≤ x ∧ x ≤ 15
theorem cnt_nonneg (ls : List Int) (n : Nat) : 0 ≤ cnt ls n := by unfold cnt; split <;> omega
def posn (ls : List Int) : List Int := ((List.range ls.length).filter (fun i => decide (0 < ls.getD i 0))).map (fun i : Nat => (i : Int))
def left (C : List Int) : Nat → Int
  | 0 => 1
  | n + 1 => 2 * left C n - C.getD (n + 1) 0
def wholeB (C : List Int) (all : Int) : Bool := (List.range 15).all (fun n => decide (0 ≤ left C (n + 1))) && (decide (left C 15 = 0) || decide (all = 0) || (decide (all = 1) && decide (C.getD 1 0 = 1)))
def okB (ls : List Int) : Bool := ls.all (fun x => decide (0 ≤ x ∧ x ≤ 15))
def newE (ls : List Int) : Int := if 320 < ls.length then 1 else if okB ls = true then (if wholeB (cntL ls) ((posn ls).length : Int) = true then 0 else 4) else 1
def mostL (ls : List Int) : Int := ls.foldl (fun a x => if a < x then x else a) 0
end Go.HuffP
namespace Go.HuffP
open Go.StS
abbrev key (ls : List Int) (x : Int) : Int := ls.getD x.toNat 0
def nxt (ls : List Int) : Nat → Int
  | 0 => 0
  | k + 1 => wordOf ls ((ord ls).getD k 0).toNat + 1
def pln (ls : List Int) : Nat → Int
  | 0 => 0
  | k + 1 => (lenOf ls ((ord ls).getD k 0).toNat : Int)
structure At (ls : List Int) (k : Nat) (s : Nat) : Prop where
  sym : (ord ls).getD k 0 = (s : Int)
  lt : s < ls.length
  one : 1 ≤ lenOf ls s
  top : lenOf ls s ≤ 15
  len : ls.getD s 0 = (lenOf ls s : Int)
  ge : pln ls k ≤ lenOf ls s
  nn : 0 ≤ pln ls k
  word : nxt ls k * 2 ^ (lenOf ls s - (pln ls k).toNat) = wordOf ls s
  w0 : 0 ≤ wordOf ls s
  w1 : wordOf ls s < 2 ^ lenOf ls s
def wd (ls : List Int) (s : Nat) : Int × Int := if 0 < lenOf ls s then (wordOf ls s, (lenOf ls s : Int)) else (0, 0)
def wordsK (ls : List Int) (k : Nat) : List (Int × Int) := (List.range ls.length).map (fun s : Nat => if (s : Int) ∈ (ord ls).take k then wd ls s else (0, 0))
def words (ls : List Int) : List (Int × Int) := (List.range ls.length).map (wd ls)
def lkW (ls : List Int) (x : Int) : Int := if 0 ≤ x ∧ x < ls.length then (wd ls x.toNat).1 else 0
def lkN (ls : List Int) (x : Int) : Int := if 0 ≤ x ∧ x < ls.length then (wd ls x.toNat).2 else 0
def lkB (ls : List Int) (x : Int) : Bool := decide (0 ≤ x ∧ x < ls.length ∧ (wd ls x.toNat).2 ≠ 0)
end Go.HuffP
namespace Go.HuffP
def cntZ (ls : List Int) : List Int := (List.range 16).map (fun n => ((cls ls n).length : Int))
def sy (ls : List Int) (m i : Nat) : List Int := ordN ls m ++ cls (ls.take i) (m + 1)
end Go.HuffP
namespace Go.HuffP
def bk (ls : List Int) (n : Nat) : Nat → Int
  | 0 => base ls n
  | k + 1 => bk ls n k + 1
structure Sy (ls : List Int) (x : Int) (L r : Nat) : Prop where
  one : 1 ≤ L
  top : L ≤ 15
  lt : r < (cls ls L).length
  get : (cls ls L).getD r 0 = x
  w : lkW ls x = base ls L + (r : Int)
  n : lkN ls x = (L : Int)
  b : lkB ls x = true
end Go.HuffP
namespace Go.Sl
end Go.Sl
namespace Go.HuffP
theorem base_ge (ls : List Int) {m n : Nat} (h : m < n) : (base ls m + cnt ls m) * 2 ^ (n - m) ≤ base ls n := by
  induction n with
  | zero => omega
  | succ n ih =>
    have hc := cnt_nonneg ls n
    by_cases e : m = n
    · subst e
      rw [show m + 1 - m = 1 by omega]
      simp only [base]
      omega
    · have := ih (by omega)
      simp only [base]
      rw [show n + 1 - m = (n - m) + 1 by omega, Int.pow_succ, ← Int.mul_assoc]
      omega
structure Pf (ls : List Int) (i k : Int) : Prop where
  n1 : 1 ≤ lkN ls i
  n2 : lkN ls i ≤ 15
  m1 : 1 ≤ lkN ls k
  m2 : lkN ls k ≤ 15
  a0 : 0 ≤ lkW ls i
  a1 : lkW ls i < 32768
  b0 : 0 ≤ lkW ls k
  b1 : lkW ls k < 32768
  ge : lkN ls k ≤ lkN ls i → lkW ls k < (lkW ls i).fdiv (2 ^ (lkN ls i - lkN ls k).toNat)
  lt : lkN ls i < lkN ls k → lkW ls i < (lkW ls k).fdiv (2 ^ (lkN ls k - lkN ls i).toNat)
theorem far {ls : List Int} {m n r s : Nat} (h : m < n) (hm : 1 ≤ m) (hr : r < (cls ls m).length) : base ls m + (r : Int) < (base ls n + (s : Int)).fdiv (2 ^ (n - m)) := by
  have h1 := base_ge ls h
  have hc : cnt ls m = ((cls ls m).length : Int) := by unfold cnt; rw [if_neg (by omega)]
  have hp : (0 : Int) < 2 ^ (n - m) := Int.pow_pos (by decide)
  rw [Int.fdiv_eq_ediv_of_nonneg _ (Int.le_of_lt hp)]
  have : base ls m + cnt ls m ≤ (base ls n + (s : Int)) / 2 ^ (n - m) := by
    rw [Int.le_ediv_iff_mul_le hp]
    omega
  omega
def fullK (ls : List Int) : Nat → Int
  | 0 => 0
  | k + 1 => fullK ls k + (if 0 < ls.getD k 0 then 2 ^ (15 - lenOf ls k) else 0)
end Go.HuffP
namespace Go.BitP
def acc (B : List Int) (at_ : Nat) : Nat → Int
  | 0 => 0
  | n + 1 => 2 * acc B at_ n + bitL B (at_ + n)
end Go.BitP
namespace Go.HuffP
open Go.BitP
inductive TR where
  | hit (n : Nat) (s : Int)
  | short (n : Nat)
  | none_ (n : Nat)
def tkGo (ls B : List Int) (at_ : Nat) : Nat → Nat → TR
  | 0, n => .none_ n
  | r + 1, n => if at_ + n < 8 * B.length then (if acc B at_ (n + 1) - base ls (n + 1) < cnt ls (n + 1) then .hit (n + 1) ((ord ls).getD (off ls (n + 1) + (acc B at_ (n + 1) - base ls (n + 1)).toNat) 0) else tkGo ls B at_ r (n + 1)) else .short n
def mst (ls : List Int) : Nat := (mostL ls).toNat
def tk (ls B : List Int) (at_ : Nat) : TR := tkGo ls B at_ (mst ls) 0
structure Tk (ls B : List Int) (at_ n : Nat) : Prop where
  le : n ≤ mst ls
  eq : tk ls B at_ = tkGo ls B at_ (mst ls - n) n
  ge : base ls n + cnt ls n ≤ acc B at_ n
  room : at_ + n ≤ 8 * B.length
section
variable {ls B : List Int} {at_ n : Nat}
end
end Go.HuffP
namespace Go.BitP
structure Pk (bs out : List Int) (fr : Nat) : Prop where
  le : fr ≤ 8
  len : 8 * out.length = bs.length + fr
  byt : Byt out
  get : ∀ i, i < bs.length → bitL out i = bs.getD i 0
  zero : ∀ i, bs.length ≤ i → bitL out i = 0
def orB (x b : Int) (p : Nat) : Int := ((x.toNat ||| b.toNat * 2 ^ p : Nat) : Int)
end Go.BitP
namespace Go.HuffP
open Go.BitP
def wb (ls : List Int) (s : Int) : List Int := (List.range (lkN ls s).toNat).map (fun i => lkW ls s / 2 ^ ((lkN ls s).toNat - 1 - i) % 2)
def ins (ls syms : List Int) : List Int := (syms.map (· % 330)).filter (fun s => decide (s < ls.length) && lkB ls s)
def bits (ls : List Int) (l : List Int) : List Int := l.flatMap (wb ls)
end Go.HuffP
namespace Go.BitP
def lowB (x : Int) (n : Nat) : List Int := (List.range n).map (fun i => x / 2 ^ i % 2)
end Go.BitP
namespace Go.InfP
open Go.BitP Go.HuffP
structure St where
  at_ : Nat
  out : List Int
  kind : Int
  left : Nat
  last : Bool
  lits : List Int
  dist : List Int
  copies : Nat
  far : Nat
  ended : Bool
def fixL : List Int := List.replicate 144 8 ++ List.replicate 112 9 ++ List.replicate 24 7 ++ List.replicate 8 8
def fixD : List Int := List.replicate 32 5
def sym (ls B : List Int) (a : Nat) : Except Int (Int × Nat) := match tk ls B a with
  | .hit n s => .ok (s, a + n)
  | .short _ => .error 2
  | .none_ _ => .error 4
def alg (a : Nat) : Nat := (a + 7) / 8 * 8
def ordr : List Int := [16, 17, 18, 0, 8, 7, 9, 6, 10, 5, 11, 4, 12, 3, 13, 2, 14, 1, 15]
def frs (B : List Int) (a : Nat) : Nat → List Int
  | 0 => List.replicate 19 0
  | i + 1 => (frs B a i).set (ordr.getD i 0).toNat (numL B (a + 3 * i) 3)
def rpB (s : Int) : Nat := if s = 16 then 2 else if s = 17 then 3 else 7
def rpL (s : Int) : Int := if s = 18 then 11 else 3
def rpW (s : Int) (l : List Int) : Int := if s = 16 then l.getD (l.length - 1) 0 else 0
def rep (B : List Int) (s : Int) (l : List Int) (a : Nat) : Except Int (Int × Int × Nat) :=
  if s < 16 then .ok (s, 1, a) else if 8 * B.length < a + rpB s then .error 2 else if s = 16 ∧ l = [] then .error 4 else .ok (rpW s l, rpL s + numL B a (rpB s), a + rpB s)
def lnStep (B c l : List Int) (a : Nat) : Except Int (List Int × Nat) := match sym c B a with
  | .error e => .error e
  | .ok (s, a) => match rep B s l a with
    | .error e => .error e
    | .ok (x, n, a) => .ok (l ++ List.replicate n.toNat x, a)
def lnGo (B c : List Int) (tot : Nat) : Nat → List Int → Nat → Except Int (List Int × Nat)
  | 0, l, a => .ok (l, a)
  | f + 1, l, a => if l.length < tot then (match lnStep B c l a with
    | .error e => .error e
    | .ok (l', a') => if l'.length ≤ tot then lnGo B c tot f l' a' else .error 4) else .ok (l, a)
def hL (B : List Int) (a : Nat) : Nat := 257 + (numL B a 5).toNat
def hD (B : List Int) (a : Nat) : Nat := 1 + (numL B (a + 5) 5).toNat
def hC (B : List Int) (a : Nat) : Nat := 4 + (numL B (a + 10) 4).toNat
def told (B : List Int) (a : Nat) : Except Int (Nat × List Int × List Int) :=
  if 8 * B.length < a + 14 then .error 2 else
  if ¬ (hL B a ≤ 286 ∧ hD B a ≤ 30) then .error 4 else
  if 8 * B.length < a + 14 + 3 * hC B a then .error 2 else
  if newE (frs B (a + 14) (hC B a)) ≠ 0 then .error 4 else
  match lnGo B (frs B (a + 14) (hC B a)) (hL B a + hD B a) (hL B a + hD B a) [] (a + 14 + 3 * hC B a) with
  | .error e => .error e
  | .ok (l, a') => if newE (l.take (hL B a)) ≠ 0 ∨ newE (l.drop (hL B a)) ≠ 0 ∨ l.getD 256 0 = 0 then .error 4 else .ok (a', l.take (hL B a), l.drop (hL B a))
def begin_ (B : List Int) (s : St) : Except Int St :=
  if 8 * B.length < s.at_ + 3 then .error 2 else
  if numL B (s.at_ + 1) 2 = 0 then
    (if 8 * B.length < alg (s.at_ + 3) + 32 then .error 2 else
     if numL B (alg (s.at_ + 3)) 16 = 65535 - numL B (alg (s.at_ + 3) + 16) 16 then .ok { s with at_ := alg (s.at_ + 3) + 32, kind := 0, left := (numL B (alg (s.at_ + 3)) 16).toNat, last := decide (numL B s.at_ 1 = 1) } else .error 4) else
  if numL B (s.at_ + 1) 2 = 1 then .ok { s with at_ := s.at_ + 3, kind := 1, last := decide (numL B s.at_ 1 = 1), lits := fixL, dist := fixD } else
  if numL B (s.at_ + 1) 2 = 2 then (match told B (s.at_ + 3) with
    | .error e => .error e
    | .ok (a, l, d) => .ok { s with at_ := a, kind := 2, last := decide (numL B s.at_ 1 = 1), lits := l, dist := d }) else .error 4
def lnB (s : Int) : Int := if s < 8 then 3 + s else if s = 28 then 258 else 3 + (4 + s % 4) * 2 ^ (s / 4 - 1).toNat
def lnM (s : Int) : Nat := if s < 8 ∨ s = 28 then 0 else (s / 4 - 1).toNat
def dsB (d : Int) : Int := if d < 4 then 1 + d else 1 + (2 + d % 2) * 2 ^ (d / 2 - 1).toNat
def dsM (d : Int) : Nat := if d < 4 then 0 else (d / 2 - 1).toNat
def put_ (most : Int) (s : St) (y : Int) : Except Int St := if (s.out.length : Int) < most then .ok { s with out := s.out ++ [y] } else .error 6
def coded (B : List Int) (most : Int) (s : St) : Except Int St := match sym s.lits B s.at_ with
  | .error e => .error e
  | .ok (y, a) =>
    if y < 256 then put_ most { s with at_ := a } y else
    if y = 256 then .ok { s with at_ := a, kind := -1, ended := s.last } else
    if 286 ≤ y then .error 4 else
    if 8 * B.length < a + lnM (y - 257) then .error 2 else
    match sym s.dist B (a + lnM (y - 257)) with
    | .error e => .error e
    | .ok (d, a3) => if 30 ≤ d then .error 4 else if 8 * B.length < a3 + dsM d then .error 2 else
      if dsB d + numL B a3 (dsM d) ≤ s.out.length then .ok { s with at_ := a3 + dsM d, copies := (lnB (y - 257) + numL B a (lnM (y - 257))).toNat, far := (dsB d + numL B a3 (dsM d)).toNat } else .error 4
def one (B : List Int) (most : Int) (s : St) : Except Int St :=
  if 0 < s.copies then put_ most { s with copies := s.copies - 1 } (s.out.getD (s.out.length - s.far) 0) else
  if s.kind = -1 then begin_ B s else
  if s.kind ≠ 0 then coded B most s else
  if s.left = 0 then .ok { s with kind := -1, ended := s.last } else
  if 8 * B.length < s.at_ + 8 then .error 2 else put_ most { s with at_ := s.at_ + 8, left := s.left - 1 } (numL B s.at_ 8)
def start : St := ⟨0, [], -1, 0, false, [], [], 0, 0, false⟩
abbrev Oc := Except Int (List Int × Nat)
inductive Runs (B : List Int) (most : Int) : St → Oc → Prop
  | done {s : St} : s.ended = true → Runs B most s (.ok (s.out, (s.at_ + 7) / 8))
  | step {s s' : St} {o : Oc} : s.ended = false → one B most s = .ok s' → Runs B most s' o → Runs B most s o
  | fail {s : St} {e : Int} : s.ended = false → one B most s = .error e → Runs B most s (.error e)
def Goes (B : List Int) (most : Int) (s s' : St) : Prop := ∀ o, Runs B most s' o → Runs B most s o
def codeE (ls : List Int) : Except Int Unit := if newE ls = 0 then .ok () else .error 4
section
variable {B l : List Int} {s : Int} {a : Nat}
end
def fixT : List (Int × Int) := [(8, 144), (9, 112), (7, 24), (8, 8)]
def fixK : Nat → List Int
  | 0 => []
  | k + 1 => fixK k ++ List.replicate (fixT.getD k (0, 0)).2.toNat (fixT.getD k (0, 0)).1
end Go.InfP

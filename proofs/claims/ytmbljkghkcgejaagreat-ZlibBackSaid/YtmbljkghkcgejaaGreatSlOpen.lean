/- Walks of functions that the law reaches, and what they lean on; no conditions. -/
import Derived.Test.YtmbljkghkcgejaaGreatSlLaw
import Derived.OpenShut
import Derived.ChangeArms
set_option linter.unusedVariables false
set_option linter.unusedSimpArgs false
set_option maxRecDepth 100000
namespace Go.Sl
open Go.RowKit (Below)
inductive Td where
 | int (k : IntKind)
 | bool
 | flt (k : FloatKind)
 | str
 | sl (T : TypeId) (e : Td)
 | st (fs : Td)
 | unit
 | seq (a b : Td)
 | arr (n : Nat) (T : TypeId) (e : Td)
def Td.size : Td → Nat
 | .int _ => 1
 | .bool => 1
 | .flt _ => 1
 | .str => 1
 | .sl _ _ => 1
 | .st d => d.size
 | .unit => 0
 | .seq a b => a.size + b.size
 | .arr n _ e => n * e.size
structure KI (α : Type) where
 p : Option Addr
 cap : Nat
 l : List α
@[reducible] def Td.Ty : Td → Type
 | .int _ => Int
 | .bool => Bool
 | .flt _ => Nat
 | .str => ByteArray
 | .sl _ e => KI e.Ty
 | .st d => d.Ty
 | .unit => Unit
 | .seq a b => a.Ty × b.Ty
 | .arr n _ e => { l : List e.Ty // l.length = n }
def Td.wM : (d : Td) → d.Ty
 | .int _ => (0 : Int)
 | .bool => false
 | .flt _ => (0 : Nat)
 | .str => ByteArray.empty
 | .sl _ _ => ⟨none, 0, []⟩
 | .st d => d.wM
 | .unit => ()
 | .seq a b => (a.wM, b.wM)
 | .arr n _ e => ⟨List.replicate n e.wM, by simp⟩
def Td.cells : (d : Td) → d.Ty → List Value
 | .int k, x => [.int k x]
 | .bool, x => [.bool x]
 | .flt k, x => [.float k x]
 | .str, x => [.string x]
 | .sl _ _, x => [.slice x.p x.l.length x.cap]
 | .st d, x => d.cells x
 | .unit, _ => []
 | .seq a b, x => a.cells x.1 ++ b.cells x.2
 | .arr _ _ e, x => x.1.flatMap e.cells
theorem Td.fE : ∀ (d : Td) (x : d.Ty), (d.cells x).length = d.size
 | .int _, _ => rfl
 | .bool, _ => rfl
 | .flt _, _ => rfl
 | .str, _ => rfl
 | .sl _ _, _ => rfl
 | .st d, x => Td.fE d x
 | .unit, _ => rfl
 | .seq a b, x => by simp [Td.cells, Td.size, Td.fE a, Td.fE b]
 | .arr n _ e, ⟨l, hl⟩ => by
  simp only [Td.cells, Td.size]
  subst hl
  induction l with
  | nil => simp
  | cons y l ih => simp only [List.flatMap_cons, List.length_append, List.length_cons, Td.fE e, ih, Nat.succ_mul]; omega
theorem Td.ml : ∀ (d : Td) (x : d.Ty), (d.cells x).all Value.oneCell' = true
 | .int _, _ => rfl
 | .bool, _ => rfl
 | .flt _, _ => rfl
 | .str, _ => rfl
 | .sl _ _, _ => rfl
 | .st d, x => Td.ml d x
 | .unit, _ => rfl
 | .seq a b, x => by simp only [Td.cells, List.all_append, Td.ml a, Td.ml b, Bool.and_self]
 | .arr n _ e, ⟨l, hl⟩ => by
  simp only [Td.cells, List.all_eq_true]
  intro v hv
  obtain ⟨y, _, hy⟩ := List.mem_flatMap.1 hv
  exact List.all_eq_true.1 (Td.ml e y) v hy
@[reducible] def Td.ec (T : TypeId) (d : Td) : Ec d.Ty := ⟨T, d.size, d.cells, d.wM, d.fE, d.ml⟩
def Td.Holds (w : World) : (d : Td) → d.Ty → Prop
 | .int k, x => k.min ≤ x ∧ x ≤ k.max
 | .bool, _ => True
 | .flt k, x => (Lit.float k x).wf = true
 | .str, x => x.size ≤ maxLen
 | .sl T e, x => (x.l.length ≤ x.cap ∧ x.cap ≤ 9223372036854775807) ∧ bJ (Td.ec T e) x.p x.l.length x.l w (fun _ => none) ∧ ∀ y ∈ x.l, e.Holds w y
 | .st d, x => d.Holds w x
 | .unit, _ => True
 | .seq a b, x => a.Holds w x.1 ∧ b.Holds w x.2
 | .arr _ _ e, x => ∀ y ∈ x.1, e.Holds w y
def Td.fits (P : Program) : Td → (TypeId ⊕ (List Field × Nat)) → Bool
 | .int k, .inl t => match P.underlying t with | some (.int k') => decide (k' = k) | _ => false
 | .bool, .inl t => match P.underlying t with | some .bool => true | _ => false
 | .flt k, .inl t => match P.underlying t with | some (.float k') => decide (k' = k) | _ => false
 | .str, .inl t => match P.underlying t with | some .string => true | _ => false
 | .sl T e, .inl t => match P.underlying t with | some (.slice T') => Nat.beq T' T && e.fits P (.inl T) && Nat.beq (P.cellsOf T) e.size && Nat.ble 1 e.size | _ => false
 | .st d, .inl t => match P.underlying t with | some (.struct fs) => d.fits P (.inr (fs.toList, 0)) && Nat.beq (P.cellsOf t) d.size | _ => false
 | .arr n T e, .inl t => match P.underlying t with | some (.array n' T') => Nat.beq n' n && Nat.beq T' T && e.fits P (.inl T) && Nat.beq (P.cellsOf T) e.size && Nat.beq (P.cellsOf t) (n * e.size) | _ => false
 | .unit, .inr ([], _) => true
 | .seq a b, .inr (f :: fs, o) => Nat.beq f.offset o && a.fits P (.inl f.type) && Nat.beq (P.cellsOf f.type) a.size && b.fits P (.inr (fs, o + a.size))
 | _, _ => false
section
variable {H : Type} {enc : TypeId × Value → H} {P : Program} {w : World} {base : Nat} {spare : Nat → Bool} {held : Bool}
theorem wW {α β : Type} {f : α → Option β} : ∀ {l : List α} {xs : List β}, l.mapM f = some xs → xs.length = l.length ∧ ∀ (i : Nat) (a : α), l[i]? = some a → f a = xs[i]?
 | [], xs, h => by simp at h; subst h; simp
 | a :: l, xs, h => by
  simp only [List.mapM_cons] at h
  cases ha : f a with
  | none => simp [ha] at h
  | some b =>
   simp only [ha] at h
   cases hl : l.mapM f with
   | none => simp [hl] at h
   | some bs =>
    simp [hl] at h
    subst h
    obtain ⟨h1, h2⟩ := wW hl
    refine ⟨by simp [h1], fun i a' hi => ?_⟩
    cases i with
    | zero => simp at hi; subst hi; simpa using ha
    | succ i => simpa using h2 i a' (by simpa using hi)
theorem vc {a : Addr} {n : Nat} {cs : List Value} (h : w.cells? base a n = some cs) : cs.length = n ∧ ∀ i : Nat, i < n → w.cell? (a.add i) = cs[i]? := by
 unfold World.cells? at h
 split at h
 ·obtain ⟨h1, h2⟩ := wW h
  simp at h1
  exact ⟨h1, fun i hi => h2 i i (by simp [hi])⟩
 ·cases h
theorem ob {α : Type} {p : Nat → α → Prop} : ∀ (n : Nat), (∀ i, i < n → ∃ y, p i y) → ∃ l : List α, l.length = n ∧ ∀ (i : Nat) (y : α), l[i]? = some y → p i y
 | 0, _ => ⟨[], rfl, by simp⟩
 | n + 1, h => by
  obtain ⟨l, h1, h2⟩ := ob n (fun i hi => h i (by omega))
  obtain ⟨y, hy⟩ := h n (by omega)
  refine ⟨l ++ [y], by simp [h1], fun i z hz => ?_⟩
  by_cases hi : i < n
  ·rw [List.getElem?_append_left (by omega)] at hz
   exact h2 i z hz
  ·have := (List.getElem?_eq_some_iff.1 hz).1
   simp at this
   obtain rfl : i = n := by omega
   rw [List.getElem?_append_right (by omega)] at hz
   simp [h1] at hz
   subst hz
   exact hy
theorem wq {α : Type} {f : α → List Value} {sz : Nat} (hf : ∀ x, (f x).length = sz) : ∀ (l : List α) (cs : List Value), cs.length = l.length * sz → (∀ (i : Nat) (y : α), l[i]? = some y → (cs.drop (i * sz)).take sz = f y) → cs = l.flatMap f
 | [], cs, h, _ => by simp at h; simp [h]
 | y :: l, cs, h, k => by
  have h0 := k 0 y (by simp)
  simp at h0
  have := wq hf l (cs.drop sz) (by simp [h, Nat.succ_mul]) (fun i z hz => by
   have := k (i + 1) z (by simpa using hz)
   rw [List.drop_drop, ← this]
   congr 2
   rw [Nat.succ_mul]; omega)
  rw [List.flatMap_cons, ← this, ← h0, List.take_append_drop]
theorem A5 {fuel : Nat} {t : TypeId} {cs : List Value} {x : DataW H × List MemPlace} {k : FloatKind} (ht : P.underlying t = some (.float k)) (h : DataW.trod enc P w base spare held fuel t cs = some x) : ∃ n, cs = [.float k n] ∧ (Lit.float k n).wf = true := by
 cases fuel with
 | zero => simp [DataW.trod] at h
 | succ n =>
  unfold DataW.trod at h
  rw [ht] at h
  split at h <;> simp_all
theorem Addr.add_add (a : Addr) (m n : Nat) : (a.add m).add n = a.add (m + n) := by
 unfold Addr.add
 by_cases hm : m = 0
 ·subst hm; simp
 ·by_cases hn : n = 0
  ·subst hn; simp [hm]
  ·have : m + n ≠ 0 := by omega
   simp only [hm, hn, this, if_false]
   simp [Nat.add_assoc]
theorem Td.open_ : ∀ (d : Td), (∀ t, d.fits P (.inl t) = true → ∀ (fuel : Nat) (cs : List Value) (x : DataW H × List MemPlace), DataW.trod enc P w 0 spare held fuel t cs = some x → ∃ y, cs = d.cells y ∧ d.Holds w y) ∧
  (∀ fs o, d.fits P (.inr (fs, o)) = true → ∀ (fuel : Nat) (cs : List Value), cs.length = o + d.size → (∀ (i : Nat) (f : Field), fs[i]? = some f → ∃ x, DataW.trod enc P w 0 spare held fuel f.type ((cs.drop f.offset).take (P.cellsOf f.type)) = some x) → ∃ y, cs.drop o = d.cells y ∧ d.Holds w y)
 | .int k => ⟨fun t hf fuel cs x h => by
   simp only [Td.fits] at hf
   split at hf
   ·rename_i k' hk
    simp at hf
    subst hf
    obtain ⟨n, rfl, _, h2⟩ := DataW.trod_int hk h
    exact ⟨n, rfl, by simpa [Lit.wf, Td.Holds] using h2⟩
   ·exact absurd hf Bool.false_ne_true, fun fs o hf => by simp [Td.fits] at hf⟩
 | .bool => ⟨fun t hf fuel cs x h => by
   simp only [Td.fits] at hf
   split at hf
   ·rename_i hk
    obtain ⟨n, rfl, _⟩ := DataW.trod_bool hk h
    exact ⟨n, rfl, trivial⟩
   ·exact absurd hf Bool.false_ne_true, fun fs o hf => by simp [Td.fits] at hf⟩
 | .flt k => ⟨fun t hf fuel cs x h => by
   simp only [Td.fits] at hf
   split at hf
   ·rename_i k' hk
    simp at hf
    subst hf
    obtain ⟨b, rfl, h2⟩ := A5 hk h
    exact ⟨b, rfl, h2⟩
   ·exact absurd hf Bool.false_ne_true, fun fs o hf => by simp [Td.fits] at hf⟩
 | .str => ⟨fun t hf fuel cs x h => by
   simp only [Td.fits] at hf
   split at hf
   ·rename_i hk
    obtain ⟨b, rfl, _, h2⟩ := DataW.trod_string hk h
    exact ⟨b, rfl, h2⟩
   ·exact absurd hf Bool.false_ne_true, fun fs o hf => by simp [Td.fits] at hf⟩
 | .sl T e => ⟨fun t hf fuel cs x h => by
   simp only [Td.fits] at hf
   split at hf
   ·rename_i T' hk
    simp only [Bool.and_eq_true] at hf
    obtain ⟨⟨⟨h1, h2⟩, h3⟩, h4⟩ := hf
    obtain rfl := Nat.eq_of_beq_eq_true h1
    have h3 := Nat.eq_of_beq_eq_true h3
    have h4 := Nat.le_of_ble_eq_true h4
    rcases DataW.trod_slice hk h with ⟨rfl, _⟩ | ⟨a, len, cap, elems, rest, n, _, rfl, _, _, hlc, hcm, hel, hgo, _⟩
    ·exact ⟨⟨none, 0, []⟩, rfl, ⟨Nat.zero_le _, Nat.zero_le _⟩, ⟨rfl, by simp, .inl rfl⟩, by simp⟩
    ·have key : ∀ i, i < len → ∃ y : e.Ty, e.Holds w y ∧ ∀ j, j < e.size → w.cell? (a.add (i * e.size + j)) = (e.cells y)[j]? := by
      intro i hi
      have h5 := hgo i hi
      have h6 : elems[i]? = some elems[i] := List.getElem?_eq_getElem (by omega)
      rw [h6, Option.bind_eq_some_iff] at h5
      obtain ⟨cs', h7, h8⟩ := h5
      obtain ⟨y, rfl, hy⟩ := (Td.open_ e).1 T' h2 n cs' _ h8
      obtain ⟨_, h9⟩ := vc h7
      refine ⟨y, hy, fun j hj => ?_⟩
      rw [← h9 j (by omega), Addr.add_add, h3]
     obtain ⟨l, hl, hp⟩ := ob len key
     subst hl
     refine ⟨⟨some a, cap, l⟩, rfl, by unfold maxLen at hcm; show l.length ≤ cap ∧ cap ≤ _; omega, ⟨rfl, by rw [jf (Td.ec T' e)], ?_⟩, fun y hy => by obtain ⟨i, hi⟩ := List.getElem?_of_mem hy; exact (hp i y hi).1⟩
     show l.length = 0 ∨ _
     by_cases h0 : l.length = 0
     ·exact .inl h0
     right
     obtain ⟨b, o, s⟩ := a
     have hfst := (hp 0 l[0] (List.getElem?_eq_getElem (by omega))).2 0 (by omega)
     have hs : s = none := by
      cases s with
      | none => rfl
      | some q =>
       exfalso
       have hlt : 0 < (e.cells l[0]).length := by rw [Td.fE]; omega
       rw [List.getElem?_eq_getElem hlt] at hfst
       simp [Addr.add, World.cell?] at hfst
       split at hfst <;> simp at hfst
     subst hs
     refine ⟨b, o, rfl, fun i v hv => ?_⟩
     have hi := (List.getElem?_eq_some_iff.1 hv).1
     rw [jf (Td.ec T' e)] at hi
     have hi : i < l.length * e.size := hi
     have hdiv : i / e.size < l.length := Nat.div_lt_of_lt_mul (by rw [Nat.mul_comm]; exact hi)
     have hmod : i % e.size < e.size := Nat.mod_lt _ (by omega)
     have hsplit : i = i / e.size * e.size + i % e.size := by rw [Nat.mul_comm]; exact (Nat.div_add_mod _ _).symm
     have hg := nh (Td.ec T' e) l (i / e.size) (i % e.size) hdiv hmod
     have hg : (l.flatMap e.cells)[i / e.size * e.size + i % e.size]? = (e.cells l[i / e.size])[i % e.size]? := hg
     rw [← hsplit] at hg
     have hv : (l.flatMap e.cells)[i]? = some v := hv
     rw [hg] at hv
     have hc := (hp (i / e.size) l[i / e.size] (List.getElem?_eq_getElem hdiv)).2 (i % e.size) hmod
     rw [hv, ← hsplit, Addr.hJ] at hc
     simp only [pA]
     rw [if_pos (World.block_lt_of_cell? _ _ hc), hc]
   ·exact absurd hf Bool.false_ne_true, fun fs o hf => by simp [Td.fits] at hf⟩
 | .st d => ⟨fun t hf fuel cs x h => by
   simp only [Td.fits] at hf
   split at hf
   ·rename_i fs hk
    simp only [Bool.and_eq_true] at hf
    obtain ⟨h1, h2⟩ := hf
    have h2 := Nat.eq_of_beq_eq_true h2
    obtain ⟨xs, n, _, _, h3, h4, h5⟩ := DataW.trod_struct hk h
    obtain ⟨y, e1, e2⟩ := (Td.open_ d).2 fs.toList 0 h1 n cs (by omega) (fun i f hi => by
     have hi' : fs[i]? = some f := by simpa using hi
     have := h5 i f hi'
     have hlt := (Array.getElem?_eq_some_iff.1 hi').1
     exact ⟨_, by rw [this]; exact List.getElem?_eq_getElem (by omega)⟩)
    exact ⟨y, by rw [List.drop_zero] at e1; exact e1, e2⟩
   ·exact absurd hf Bool.false_ne_true, fun fs o hf => by simp [Td.fits] at hf⟩
 | .unit => ⟨fun t hf => by simp [Td.fits] at hf, fun fs o hf fuel cs hl h => ⟨(), by simp [Td.cells, Td.size] at hl ⊢; omega, trivial⟩⟩
 | .seq a b => ⟨fun t hf => by simp [Td.fits] at hf, fun fs o hf fuel cs hl h => by
   cases fs with
   | nil => simp [Td.fits] at hf
   | cons f fs =>
    simp only [Td.fits, Bool.and_eq_true] at hf
    obtain ⟨⟨⟨h1, h2⟩, h3⟩, h4⟩ := hf
    have h1 := Nat.eq_of_beq_eq_true h1
    have h3 := Nat.eq_of_beq_eq_true h3
    obtain ⟨x, hx⟩ := h 0 f rfl
    rw [h1, h3] at hx
    obtain ⟨y, e1, e2⟩ := (Td.open_ a).1 _ h2 fuel _ x hx
    simp only [Td.size] at hl
    obtain ⟨z, e3, e4⟩ := (Td.open_ b).2 fs (o + a.size) h4 fuel cs (by omega) (fun i g hi => h (i + 1) g (by simpa using hi))
    refine ⟨(y, z), ?_, e2, e4⟩
    simp only [Td.cells]
    rw [← e1, ← e3, ← List.drop_drop, List.take_append_drop]⟩
 | .arr n T e => ⟨fun t hf fuel cs x h => by
   simp only [Td.fits] at hf
   split at hf
   ·rename_i n' T' hk
    simp only [Bool.and_eq_true] at hf
    obtain ⟨⟨⟨⟨h1, h2⟩, h3⟩, h4⟩, h5⟩ := hf
    obtain rfl := Nat.eq_of_beq_eq_true h1
    obtain rfl := Nat.eq_of_beq_eq_true h2
    have h4 := Nat.eq_of_beq_eq_true h4
    have h5 := Nat.eq_of_beq_eq_true h5
    obtain ⟨xs, m, _, _, h6, h7, h8⟩ := DataW.trod_array hk h
    obtain ⟨l, hl, hp⟩ := ob (p := fun i (y : e.Ty) => (cs.drop (i * e.size)).take e.size = e.cells y ∧ e.Holds w y) n' (fun i hi => by
     have h9 := h8 i hi
     rw [List.getElem?_eq_getElem (by omega), h4] at h9
     obtain ⟨y, e1, e2⟩ := (Td.open_ e).1 T' h3 m _ _ h9
     exact ⟨y, e1, e2⟩)
    refine ⟨⟨l, hl⟩, wq (Td.fE e) l cs (by rw [hl]; omega) (fun i y hy => (hp i y hy).1), fun y hy => by obtain ⟨i, hi⟩ := List.getElem?_of_mem hy; exact (hp i y hi).2⟩
   ·exact absurd hf Bool.false_ne_true, fun fs o hf => by simp [Td.fits] at hf⟩
theorem Td.arg (d : Td) {t : TypeId} {v : Value} {r : DataW H} {p : List MemPlace} (hf : d.fits P (.inl t) = true) (h : ∃ fuel, DataW.trod enc P w 0 spare held fuel t v.cells.toList = some (r, p)) : ∃ y, v.cells.toList = d.cells y ∧ d.Holds w y := by
 obtain ⟨fuel, h⟩ := h
 exact (Td.open_ d).1 t hf fuel _ _ h
end
theorem qV {cs : Array Value} {l : List Value} (h : (Value.agg cs).cells.toList = l) : Value.agg cs = .agg l.toArray := by
 subst h; simp [Value.cells]
def Td.val : (d : Td) → d.Ty → Value
 | .int k, x => .int k x
 | .bool, x => .bool x
 | .flt k, x => .float k x
 | .str, x => .string x
 | .sl _ _, x => .slice x.p x.l.length x.cap
 | .st d, x => .agg (d.cells x).toArray
 | .unit, _ => .agg #[]
 | .seq a b, x => .agg (Td.cells (.seq a b) x).toArray
 | .arr n T e, x => .agg (Td.cells (.arr n T e) x).toArray
section
variable {H : Type} {enc : TypeId × Value → H} {P : Program} {w : World} {spare : Nat → Bool} {held : Bool}
open Go.WideShapes
theorem Td.MA (d : Td) {t : TypeId} {v : Value} {r : DataW H} {p : List MemPlace} {rr : Reach} {b : Nat} (hf : d.fits P (.inl t) = true) (ho : Value.okWide P w rr b t v) (h : ∃ fuel, DataW.trod enc P w 0 spare held fuel t v.cells.toList = some (r, p)) : ∃ y, v = d.val y ∧ d.Holds w y := by
 obtain ⟨y, e, hy⟩ := Td.arg d hf h
 refine ⟨y, ?_, hy⟩
 cases d with
 | int k =>
  simp only [Td.fits] at hf
  split at hf
  ·rename_i k' hk
   obtain ⟨n, rfl⟩ := okWide_int hk ho
   simpa [Value.cells, Td.cells, Td.val] using e
  ·cases hf
 | bool =>
  simp only [Td.fits] at hf
  split at hf
  ·rename_i hk
   obtain ⟨n, rfl⟩ := okWide_bool hk ho
   simpa [Value.cells, Td.cells, Td.val] using e
  ·cases hf
 | flt k =>
  simp only [Td.fits] at hf
  split at hf
  ·rename_i k' hk
   simp only [Value.okWide, hk, Cell.okWide] at ho
   cases v <;> simp_all [Cell.ok, Value.cells, Td.cells, Td.val]
  ·cases hf
 | str =>
  simp only [Td.fits] at hf
  split at hf
  ·rename_i hk
   obtain ⟨n, rfl⟩ := okWide_string hk ho
   simpa [Value.cells, Td.cells, Td.val] using e
  ·cases hf
 | sl T e' =>
  simp only [Td.fits] at hf
  split at hf
  ·rename_i k' hk
   obtain ⟨a, len, cap, rfl⟩ := okWide_slice hk ho
   simpa [Value.cells, Td.cells, Td.val] using e
  ·cases hf
 | st d =>
  simp only [Td.fits] at hf
  split at hf
  ·rename_i fs hk
   obtain ⟨cs, rfl, _⟩ := okWide_struct hk ho
   exact qV e
  ·cases hf
 | unit => simp [Td.fits] at hf
 | seq a b => simp [Td.fits] at hf
 | arr n T e' =>
  simp only [Td.fits] at hf
  split at hf
  ·rename_i n' T' hk
   simp only [Value.okWide, hk] at ho
   obtain ⟨cs, rfl, _⟩ := ho
   exact qV e
  ·cases hf
end
end Go.Sl

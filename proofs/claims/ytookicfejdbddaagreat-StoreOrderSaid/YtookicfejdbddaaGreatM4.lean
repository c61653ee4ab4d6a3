/- Walks of functions that the law reaches, and what they lean on; no conditions. -/
import Derived.Test.YtookicfejdbddaaGreatM3
import Derived.OpenShut
import Derived.ChangeArms
import Derived.Recover
import Derived.Laws.BytesArg
import Derived.Still
set_option linter.unusedVariables false
set_option linter.unusedSimpArgs false
set_option linter.unnecessarySimpa false
set_option maxRecDepth 100000
namespace Go.Sl
open Go.RowKit (Below)
inductive Td where
  | int (k : IntKind)
  | bool
  | flt (k : FloatKind)
  | str
  | sl (T : TypeId) (e : Td)
  | st (fs : Td)
  | unit
  | seq (a b : Td)
  | arr (n : Nat) (T : TypeId) (e : Td)
def Td.size : Td → Nat
  | .int _ => 1
  | .bool => 1
  | .flt _ => 1
  | .str => 1
  | .sl _ _ => 1
  | .st d => d.size
  | .unit => 0
  | .seq a b => a.size + b.size
  | .arr n _ e => n * e.size
structure Slv (α : Type) where
  p : Option Addr
  cap : Nat
  l : List α
@[reducible] def Td.Ty : Td → Type
  | .int _ => Int
  | .bool => Bool
  | .flt _ => Nat
  | .str => ByteArray
  | .sl _ e => Slv e.Ty
  | .st d => d.Ty
  | .unit => Unit
  | .seq a b => a.Ty × b.Ty
  | .arr n _ e => { l : List e.Ty // l.length = n }
def Td.dflt : (d : Td) → d.Ty
  | .int _ => (0 : Int)
  | .bool => false
  | .flt _ => (0 : Nat)
  | .str => ByteArray.empty
  | .sl _ _ => ⟨none, 0, []⟩
  | .st d => d.dflt
  | .unit => ()
  | .seq a b => (a.dflt, b.dflt)
  | .arr n _ e => ⟨List.replicate n e.dflt, by simp⟩
def Td.cells : (d : Td) → d.Ty → List Value
  | .int k, x => [.int k x]
  | .bool, x => [.bool x]
  | .flt k, x => [.float k x]
  | .str, x => [.string x]
  | .sl _ _, x => [.slice x.p x.l.length x.cap]
  | .st d, x => d.cells x
  | .unit, _ => []
  | .seq a b, x => a.cells x.1 ++ b.cells x.2
  | .arr _ _ e, x => x.1.flatMap e.cells
theorem Td.cells_len : ∀ (d : Td) (x : d.Ty), (d.cells x).length = d.size
  | .int _, _ => rfl
  | .bool, _ => rfl
  | .flt _, _ => rfl
  | .str, _ => rfl
  | .sl _ _, _ => rfl
  | .st d, x => Td.cells_len d x
  | .unit, _ => rfl
  | .seq a b, x => by simp [Td.cells, Td.size, Td.cells_len a, Td.cells_len b]
  | .arr n _ e, ⟨l, hl⟩ => by
    simp only [Td.cells, Td.size]
    subst hl
    induction l with
    | nil => simp
    | cons y l ih => simp only [List.flatMap_cons, List.length_append, List.length_cons, Td.cells_len e, ih, Nat.succ_mul]; omega
theorem Td.cells_one : ∀ (d : Td) (x : d.Ty), (d.cells x).all Value.oneCell' = true
  | .int _, _ => rfl
  | .bool, _ => rfl
  | .flt _, _ => rfl
  | .str, _ => rfl
  | .sl _ _, _ => rfl
  | .st d, x => Td.cells_one d x
  | .unit, _ => rfl
  | .seq a b, x => by simp only [Td.cells, List.all_append, Td.cells_one a, Td.cells_one b, Bool.and_self]
  | .arr n _ e, ⟨l, hl⟩ => by
    simp only [Td.cells, List.all_eq_true]
    intro v hv
    obtain ⟨y, _, hy⟩ := List.mem_flatMap.1 hv
    exact List.all_eq_true.1 (Td.cells_one e y) v hy
@[reducible] def Td.ec (T : TypeId) (d : Td) : Ec d.Ty := ⟨T, d.size, d.cells, d.dflt, d.cells_len, d.cells_one⟩
def Td.Holds (w : World) : (d : Td) → d.Ty → Prop
  | .int k, x => k.min ≤ x ∧ x ≤ k.max
  | .bool, _ => True
  | .flt k, x => (Lit.float k x).wf = true
  | .str, x => x.size ≤ maxLen
  | .sl T e, x => (x.l.length ≤ x.cap ∧ x.cap ≤ 9223372036854775807) ∧ RdR (Td.ec T e) x.p x.l.length x.l w (fun _ => none) ∧ ∀ y ∈ x.l, e.Holds w y
  | .st d, x => d.Holds w x
  | .unit, _ => True
  | .seq a b, x => a.Holds w x.1 ∧ b.Holds w x.2
  | .arr _ _ e, x => ∀ y ∈ x.1, e.Holds w y
def Td.fits (P : Program) : Td → (TypeId ⊕ (List Field × Nat)) → Bool
  | .int k, .inl t => match P.underlying t with | some (.int k') => decide (k' = k) | _ => false
  | .bool, .inl t => match P.underlying t with | some .bool => true | _ => false
  | .flt k, .inl t => match P.underlying t with | some (.float k') => decide (k' = k) | _ => false
  | .str, .inl t => match P.underlying t with | some .string => true | _ => false
  | .sl T e, .inl t => match P.underlying t with | some (.slice T') => Nat.beq T' T && e.fits P (.inl T) && Nat.beq (P.cellsOf T) e.size && Nat.ble 1 e.size | _ => false
  | .st d, .inl t => match P.underlying t with | some (.struct fs) => d.fits P (.inr (fs.toList, 0)) && Nat.beq (P.cellsOf t) d.size | _ => false
  | .arr n T e, .inl t => match P.underlying t with | some (.array n' T') => Nat.beq n' n && Nat.beq T' T && e.fits P (.inl T) && Nat.beq (P.cellsOf T) e.size && Nat.beq (P.cellsOf t) (n * e.size) | _ => false
  | .unit, .inr ([], _) => true
  | .seq a b, .inr (f :: fs, o) => Nat.beq f.offset o && a.fits P (.inl f.type) && Nat.beq (P.cellsOf f.type) a.size && b.fits P (.inr (fs, o + a.size))
  | _, _ => false
section
variable {H : Type} {enc : TypeId × Value → H} {P : Program} {w : World} {base : Nat} {spare : Nat → Bool} {held : Bool}
theorem mapM_get {α β : Type} {f : α → Option β} : ∀ {l : List α} {xs : List β}, l.mapM f = some xs → xs.length = l.length ∧ ∀ (i : Nat) (a : α), l[i]? = some a → f a = xs[i]?
  | [], xs, h => by simp at h; subst h; simp
  | a :: l, xs, h => by
    simp only [List.mapM_cons] at h
    cases ha : f a with
    | none => simp [ha] at h
    | some b =>
      simp only [ha] at h
      cases hl : l.mapM f with
      | none => simp [hl] at h
      | some bs =>
        simp [hl] at h
        subst h
        obtain ⟨h1, h2⟩ := mapM_get hl
        refine ⟨by simp [h1], fun i a' hi => ?_⟩
        cases i with
        | zero => simp at hi; subst hi; simpa using ha
        | succ i => simpa using h2 i a' (by simpa using hi)
theorem cells_get {a : Addr} {n : Nat} {cs : List Value} (h : w.cells? base a n = some cs) : cs.length = n ∧ ∀ i : Nat, i < n → w.cell? (a.add i) = cs[i]? := by
  unfold World.cells? at h
  split at h
  · obtain ⟨h1, h2⟩ := mapM_get h
    simp at h1
    exact ⟨h1, fun i hi => h2 i i (by simp [hi])⟩
  · cases h
theorem choose_list {α : Type} {p : Nat → α → Prop} : ∀ (n : Nat), (∀ i, i < n → ∃ y, p i y) → ∃ l : List α, l.length = n ∧ ∀ (i : Nat) (y : α), l[i]? = some y → p i y
  | 0, _ => ⟨[], rfl, by simp⟩
  | n + 1, h => by
    obtain ⟨l, h1, h2⟩ := choose_list n (fun i hi => h i (by omega))
    obtain ⟨y, hy⟩ := h n (by omega)
    refine ⟨l ++ [y], by simp [h1], fun i z hz => ?_⟩
    by_cases hi : i < n
    · rw [List.getElem?_append_left (by omega)] at hz
      exact h2 i z hz
    · have := (List.getElem?_eq_some_iff.1 hz).1
      simp at this
      obtain rfl : i = n := by omega
      rw [List.getElem?_append_right (by omega)] at hz
      simp [h1] at hz
      subst hz
      exact hy
theorem flat_ext {α : Type} {f : α → List Value} {sz : Nat} (hf : ∀ x, (f x).length = sz) : ∀ (l : List α) (cs : List Value), cs.length = l.length * sz → (∀ (i : Nat) (y : α), l[i]? = some y → (cs.drop (i * sz)).take sz = f y) → cs = l.flatMap f
  | [], cs, h, _ => by simp at h; simp [h]
  | y :: l, cs, h, k => by
    have h0 := k 0 y (by simp)
    simp at h0
    have := flat_ext hf l (cs.drop sz) (by simp [h, Nat.succ_mul]) (fun i z hz => by
      have := k (i + 1) z (by simpa using hz)
      rw [List.drop_drop, ← this]
      congr 2
      rw [Nat.succ_mul]; omega)
    rw [List.flatMap_cons, ← this, ← h0, List.take_append_drop]
theorem trod_float {fuel : Nat} {t : TypeId} {cs : List Value} {x : DataW H × List MemPlace} {k : FloatKind} (ht : P.underlying t = some (.float k)) (h : DataW.trod enc P w base spare held fuel t cs = some x) : ∃ n, cs = [.float k n] ∧ (Lit.float k n).wf = true := by
  cases fuel with
  | zero => simp [DataW.trod] at h
  | succ n =>
    unfold DataW.trod at h
    rw [ht] at h
    split at h <;> simp_all
theorem Addr.add_add (a : Addr) (m n : Nat) : (a.add m).add n = a.add (m + n) := by
  unfold Addr.add
  by_cases hm : m = 0
  · subst hm; simp
  · by_cases hn : n = 0
    · subst hn; simp [hm]
    · have : m + n ≠ 0 := by omega
      simp only [hm, hn, this, if_false]
      simp [Nat.add_assoc]
theorem Td.open_ : ∀ (d : Td), (∀ t, d.fits P (.inl t) = true → ∀ (fuel : Nat) (cs : List Value) (x : DataW H × List MemPlace), DataW.trod enc P w 0 spare held fuel t cs = some x → ∃ y, cs = d.cells y ∧ d.Holds w y) ∧
    (∀ fs o, d.fits P (.inr (fs, o)) = true → ∀ (fuel : Nat) (cs : List Value), cs.length = o + d.size → (∀ (i : Nat) (f : Field), fs[i]? = some f → ∃ x, DataW.trod enc P w 0 spare held fuel f.type ((cs.drop f.offset).take (P.cellsOf f.type)) = some x) → ∃ y, cs.drop o = d.cells y ∧ d.Holds w y)
  | .int k => ⟨fun t hf fuel cs x h => by
      simp only [Td.fits] at hf
      split at hf
      · rename_i k' hk
        simp at hf
        subst hf
        obtain ⟨n, rfl, _, h2⟩ := DataW.trod_int hk h
        exact ⟨n, rfl, by simpa [Lit.wf, Td.Holds] using h2⟩
      · exact absurd hf Bool.false_ne_true, fun fs o hf => by simp [Td.fits] at hf⟩
  | .bool => ⟨fun t hf fuel cs x h => by
      simp only [Td.fits] at hf
      split at hf
      · rename_i hk
        obtain ⟨n, rfl, _⟩ := DataW.trod_bool hk h
        exact ⟨n, rfl, trivial⟩
      · exact absurd hf Bool.false_ne_true, fun fs o hf => by simp [Td.fits] at hf⟩
  | .flt k => ⟨fun t hf fuel cs x h => by
      simp only [Td.fits] at hf
      split at hf
      · rename_i k' hk
        simp at hf
        subst hf
        obtain ⟨b, rfl, h2⟩ := trod_float hk h
        exact ⟨b, rfl, h2⟩
      · exact absurd hf Bool.false_ne_true, fun fs o hf => by simp [Td.fits] at hf⟩
  | .str => ⟨fun t hf fuel cs x h => by
      simp only [Td.fits] at hf
      split at hf
      · rename_i hk
        obtain ⟨b, rfl, _, h2⟩ := DataW.trod_string hk h
        exact ⟨b, rfl, h2⟩
      · exact absurd hf Bool.false_ne_true, fun fs o hf => by simp [Td.fits] at hf⟩
  | .sl T e => ⟨fun t hf fuel cs x h => by
      simp only [Td.fits] at hf
      split at hf
      · rename_i T' hk
        simp only [Bool.and_eq_true] at hf
        obtain ⟨⟨⟨h1, h2⟩, h3⟩, h4⟩ := hf
        obtain rfl := Nat.eq_of_beq_eq_true h1
        have h3 := Nat.eq_of_beq_eq_true h3
        have h4 := Nat.le_of_ble_eq_true h4
        rcases DataW.trod_slice hk h with ⟨rfl, _⟩ | ⟨a, len, cap, elems, rest, n, _, rfl, _, _, hlc, hcm, hel, hgo, _⟩
        · exact ⟨⟨none, 0, []⟩, rfl, ⟨Nat.zero_le _, Nat.zero_le _⟩, ⟨rfl, by simp, .inl rfl⟩, by simp⟩
        · have key : ∀ i, i < len → ∃ y : e.Ty, e.Holds w y ∧ ∀ j, j < e.size → w.cell? (a.add (i * e.size + j)) = (e.cells y)[j]? := by
            intro i hi
            have h5 := hgo i hi
            have h6 : elems[i]? = some elems[i] := List.getElem?_eq_getElem (by omega)
            rw [h6, Option.bind_eq_some_iff] at h5
            obtain ⟨cs', h7, h8⟩ := h5
            obtain ⟨y, rfl, hy⟩ := (Td.open_ e).1 T' h2 n cs' _ h8
            obtain ⟨_, h9⟩ := cells_get h7
            refine ⟨y, hy, fun j hj => ?_⟩
            rw [← h9 j (by omega), Addr.add_add, h3]
          obtain ⟨l, hl, hp⟩ := choose_list len key
          subst hl
          refine ⟨⟨some a, cap, l⟩, rfl, by unfold maxLen at hcm; show l.length ≤ cap ∧ cap ≤ _; omega, ⟨rfl, by rw [flat_len (Td.ec T' e)], ?_⟩, fun y hy => by obtain ⟨i, hi⟩ := List.getElem?_of_mem hy; exact (hp i y hi).1⟩
          show l.length = 0 ∨ _
          by_cases h0 : l.length = 0
          · exact .inl h0
          right
          obtain ⟨b, o, s⟩ := a
          have hfst := (hp 0 l[0] (List.getElem?_eq_getElem (by omega))).2 0 (by omega)
          have hs : s = none := by
            cases s with
            | none => rfl
            | some q =>
              exfalso
              have hlt : 0 < (e.cells l[0]).length := by rw [Td.cells_len]; omega
              rw [List.getElem?_eq_getElem hlt] at hfst
              simp [Addr.add, World.cell?] at hfst
              split at hfst <;> simp at hfst
          subst hs
          refine ⟨b, o, rfl, fun i v hv => ?_⟩
          have hi := (List.getElem?_eq_some_iff.1 hv).1
          rw [flat_len (Td.ec T' e)] at hi
          have hi : i < l.length * e.size := hi
          have hdiv : i / e.size < l.length := Nat.div_lt_of_lt_mul (by rw [Nat.mul_comm]; exact hi)
          have hmod : i % e.size < e.size := Nat.mod_lt _ (by omega)
          have hsplit : i = i / e.size * e.size + i % e.size := by rw [Nat.mul_comm]; exact (Nat.div_add_mod _ _).symm
          have hg := flat_get (Td.ec T' e) l (i / e.size) (i % e.size) hdiv hmod
          have hg : (l.flatMap e.cells)[i / e.size * e.size + i % e.size]? = (e.cells l[i / e.size])[i % e.size]? := hg
          rw [← hsplit] at hg
          have hv : (l.flatMap e.cells)[i]? = some v := hv
          rw [hg] at hv
          have hc := (hp (i / e.size) l[i / e.size] (List.getElem?_eq_getElem hdiv)).2 (i % e.size) hmod
          rw [hv, ← hsplit, Addr.add_mk] at hc
          simp only [cellH]
          rw [if_pos (World.block_lt_of_cell? _ _ hc), hc]
      · exact absurd hf Bool.false_ne_true, fun fs o hf => by simp [Td.fits] at hf⟩
  | .st d => ⟨fun t hf fuel cs x h => by
      simp only [Td.fits] at hf
      split at hf
      · rename_i fs hk
        simp only [Bool.and_eq_true] at hf
        obtain ⟨h1, h2⟩ := hf
        have h2 := Nat.eq_of_beq_eq_true h2
        obtain ⟨xs, n, _, _, h3, h4, h5⟩ := DataW.trod_struct hk h
        obtain ⟨y, e1, e2⟩ := (Td.open_ d).2 fs.toList 0 h1 n cs (by omega) (fun i f hi => by
          have hi' : fs[i]? = some f := by simpa using hi
          have := h5 i f hi'
          have hlt := (Array.getElem?_eq_some_iff.1 hi').1
          exact ⟨_, by rw [this]; exact List.getElem?_eq_getElem (by omega)⟩)
        exact ⟨y, by rw [List.drop_zero] at e1; exact e1, e2⟩
      · exact absurd hf Bool.false_ne_true, fun fs o hf => by simp [Td.fits] at hf⟩
  | .unit => ⟨fun t hf => by simp [Td.fits] at hf, fun fs o hf fuel cs hl h => ⟨(), by simp [Td.cells, Td.size] at hl ⊢; omega, trivial⟩⟩
  | .seq a b => ⟨fun t hf => by simp [Td.fits] at hf, fun fs o hf fuel cs hl h => by
      cases fs with
      | nil => simp [Td.fits] at hf
      | cons f fs =>
        simp only [Td.fits, Bool.and_eq_true] at hf
        obtain ⟨⟨⟨h1, h2⟩, h3⟩, h4⟩ := hf
        have h1 := Nat.eq_of_beq_eq_true h1
        have h3 := Nat.eq_of_beq_eq_true h3
        obtain ⟨x, hx⟩ := h 0 f rfl
        rw [h1, h3] at hx
        obtain ⟨y, e1, e2⟩ := (Td.open_ a).1 _ h2 fuel _ x hx
        simp only [Td.size] at hl
        obtain ⟨z, e3, e4⟩ := (Td.open_ b).2 fs (o + a.size) h4 fuel cs (by omega) (fun i g hi => h (i + 1) g (by simpa using hi))
        refine ⟨(y, z), ?_, e2, e4⟩
        simp only [Td.cells]
        rw [← e1, ← e3, ← List.drop_drop, List.take_append_drop]⟩
  | .arr n T e => ⟨fun t hf fuel cs x h => by
      simp only [Td.fits] at hf
      split at hf
      · rename_i n' T' hk
        simp only [Bool.and_eq_true] at hf
        obtain ⟨⟨⟨⟨h1, h2⟩, h3⟩, h4⟩, h5⟩ := hf
        obtain rfl := Nat.eq_of_beq_eq_true h1
        obtain rfl := Nat.eq_of_beq_eq_true h2
        have h4 := Nat.eq_of_beq_eq_true h4
        have h5 := Nat.eq_of_beq_eq_true h5
        obtain ⟨xs, m, _, _, h6, h7, h8⟩ := DataW.trod_array hk h
        obtain ⟨l, hl, hp⟩ := choose_list (p := fun i (y : e.Ty) => (cs.drop (i * e.size)).take e.size = e.cells y ∧ e.Holds w y) n' (fun i hi => by
          have h9 := h8 i hi
          rw [List.getElem?_eq_getElem (by omega), h4] at h9
          obtain ⟨y, e1, e2⟩ := (Td.open_ e).1 T' h3 m _ _ h9
          exact ⟨y, e1, e2⟩)
        refine ⟨⟨l, hl⟩, flat_ext (Td.cells_len e) l cs (by rw [hl]; omega) (fun i y hy => (hp i y hy).1), fun y hy => by obtain ⟨i, hi⟩ := List.getElem?_of_mem hy; exact (hp i y hi).2⟩
      · exact absurd hf Bool.false_ne_true, fun fs o hf => by simp [Td.fits] at hf⟩
theorem Td.arg (d : Td) {t : TypeId} {v : Value} {r : DataW H} {p : List MemPlace} (hf : d.fits P (.inl t) = true) (h : ∃ fuel, DataW.trod enc P w 0 spare held fuel t v.cells.toList = some (r, p)) : ∃ y, v.cells.toList = d.cells y ∧ d.Holds w y := by
  obtain ⟨fuel, h⟩ := h
  exact (Td.open_ d).1 t hf fuel _ _ h
end
theorem cells_of_agg {cs : Array Value} {l : List Value} (h : (Value.agg cs).cells.toList = l) : Value.agg cs = .agg l.toArray := by
  subst h; simp [Value.cells]
def Td.val : (d : Td) → d.Ty → Value
  | .int k, x => .int k x
  | .bool, x => .bool x
  | .flt k, x => .float k x
  | .str, x => .string x
  | .sl _ _, x => .slice x.p x.l.length x.cap
  | .st d, x => .agg (d.cells x).toArray
  | .unit, _ => .agg #[]
  | .seq a b, x => .agg (Td.cells (.seq a b) x).toArray
  | .arr n T e, x => .agg (Td.cells (.arr n T e) x).toArray
section
variable {H : Type} {enc : TypeId × Value → H} {P : Program} {w : World} {spare : Nat → Bool} {held : Bool}
open Go.WideShapes
theorem Td.argV (d : Td) {t : TypeId} {v : Value} {r : DataW H} {p : List MemPlace} {rr : Reach} {b : Nat} (hf : d.fits P (.inl t) = true) (ho : Value.okWide P w rr b t v) (h : ∃ fuel, DataW.trod enc P w 0 spare held fuel t v.cells.toList = some (r, p)) : ∃ y, v = d.val y ∧ d.Holds w y := by
  obtain ⟨y, e, hy⟩ := Td.arg d hf h
  refine ⟨y, ?_, hy⟩
  cases d with
  | int k =>
    simp only [Td.fits] at hf
    split at hf
    · rename_i k' hk
      obtain ⟨n, rfl⟩ := okWide_int hk ho
      simpa [Value.cells, Td.cells, Td.val] using e
    · cases hf
  | bool =>
    simp only [Td.fits] at hf
    split at hf
    · rename_i hk
      obtain ⟨n, rfl⟩ := okWide_bool hk ho
      simpa [Value.cells, Td.cells, Td.val] using e
    · cases hf
  | flt k =>
    simp only [Td.fits] at hf
    split at hf
    · rename_i k' hk
      simp only [Value.okWide, hk, Cell.okWide] at ho
      cases v <;> simp_all [Cell.ok, Value.cells, Td.cells, Td.val]
    · cases hf
  | str =>
    simp only [Td.fits] at hf
    split at hf
    · rename_i hk
      obtain ⟨n, rfl⟩ := okWide_string hk ho
      simpa [Value.cells, Td.cells, Td.val] using e
    · cases hf
  | sl T e' =>
    simp only [Td.fits] at hf
    split at hf
    · rename_i k' hk
      obtain ⟨a, len, cap, rfl⟩ := okWide_slice hk ho
      simpa [Value.cells, Td.cells, Td.val] using e
    · cases hf
  | st d =>
    simp only [Td.fits] at hf
    split at hf
    · rename_i fs hk
      obtain ⟨cs, rfl, _⟩ := okWide_struct hk ho
      exact cells_of_agg e
    · cases hf
  | unit => simp [Td.fits] at hf
  | seq a b => simp [Td.fits] at hf
  | arr n T e' =>
    simp only [Td.fits] at hf
    split at hf
    · rename_i n' T' hk
      simp only [Value.okWide, hk] at ho
      obtain ⟨cs, rfl, _⟩ := ho
      exact cells_of_agg e
    · cases hf
end
end Go.Sl
namespace Go.Sl
def Deep (T : TypeId) (e : Td) (p : Option Addr) (n : Nat) (l : List e.Ty) : HProp := fun w0 h => RdR (Td.ec T e) p n l w0 h ∧ ∀ y ∈ l, e.Holds w0 y
section
variable {C : Ctx} {Q : QT} {E : Env} {L : List HProp} {ops : Array Oper} {rest : List Oper}
end
theorem ints_start {w : World} {T : TypeId} {k : IntKind} {x : Slv Int} (hx : (Td.sl T (.int k)).Holds w x) : RdR (ecI T k) x.p x.l.length x.l w (fun _ => none) := hx.2.1
end Go.Sl
namespace Go.Sl
open Go.RowKit (Below)
def Pan (R : List PanicEntry → List HProp → Prop) : Ending → List HProp → Prop := fun e G => ∃ ch, e = .panicked ch ∧ R ch G
def RetPan (R : Value → List HProp → Prop) (S : List PanicEntry → List HProp → Prop) : Ending → List HProp → Prop := fun e G => (∃ v, e = .returned v ∧ R v G) ∨ (∃ ch, e = .panicked ch ∧ S ch G)
abbrev pan1 (t : TypeId) (v : Value) : List PanicEntry := [{ v := .iface t v, recovered := false }]
section
variable {C : Ctx} {Q : QT} {E : Env} {L L' F : List HProp} {ops : Array Oper} {rest : List Oper} {d : Nat} {ty : TypeId} {pos : String} {aft : Array Edge} {op : Op} {v : Value}
theorem o_callFE {dst : Option Nat} {f : FuncId} {t : Nat} {args : List Operand} {tys : Array TypeId} {vs fs cs : List Value} {Pre : List HProp} {R : List PanicEntry → List HProp → Prop} (hS : Ctr C.P f (fs ++ vs ++ cs) Pre (Pan R)) (hb : bodyB C.P f = true) (ht : E.get t = some (.func (.func f) fs.toArray cs.toArray)) (hE : evs E args = some vs) (hL : Rems L Pre F)
    (k : ∀ ch G, R ch G → Q (.panic ch) E (G ++ F)) : Ops C ops (⟨dst, .call ⟨.value (.tmp t), args.toArray, tys⟩, ty, pos, aft, none⟩ :: rest) Q E L := by
  intro a w ha hi
  refine wpList_plain rfl (fun K hK => ?_)
  have hargs := ha.evs hE
  have hev := ha.eval (x := .tmp t) ht
  have hr : (execOp a.eval ⟨dst, .call ⟨.value (.tmp t), args.toArray, tys⟩, ty, pos, aft, none⟩).run C.P w = .ok (.enter f (fs ++ vs ++ cs).toArray) w := by
    simp only [execOp, resolve, hargs, hev, Deferred.ofValue, invoke, Sem.run_bind, Sem.run_pure, Result.andThen_ok, run_callFunc hb]
    simp
  unfold Oper.wp
  rw [hr]
  refine (hS C.w0 F w (hi.perm hL.perm)).mono ?_
  rintro e w' ⟨G, h1, ch, rfl, h2⟩
  exact ⟨E, _, ha, h1, k ch G h2⟩
def concB (P : Program) (t : TypeId) : Bool := match P.underlying t with | some (.interface _) => false | some _ => true | none => false
theorem v_iface {x : Operand} {t : TypeId} (ht : concB C.P t = true) (hx : evalE E x = some v) : OpV C (.makeInterface t x) ty E L (.iface t v) L := pureV fun d pos aft g a w ha => by
  unfold concB at ht
  split at ht <;> try simp at ht
  rename_i ds hne hds
  simp only [execOp, ha.eval hx, Instr.makeInterface, Sem.run_bind, run_underlying hds, Result.andThen_ok]
  cases ds <;> first | (exact absurd rfl (hne _)) | simp [Sem.run_pure]
theorem run_equal_sl {t e : TypeId} {p : Option Addr} {n c : Nat} (ht : C.P.underlying t = some (.slice e)) (d : Nat) (w : World) : (Op.equalIn (d + 1) t (.slice p n c) (.slice none 0 0)).run C.P w = .ok p.isNone w := by
  cases p <;> simp [Op.equalIn, run_underlying ht]
theorem v_eqnilS {x y : Operand} {t t' e : TypeId} {p : Option Addr} {n c : Nat} (ht : C.P.underlying t = some (.slice e)) (hx : evalE E x = some (.slice p n c)) (hy : evalE E y = some (.slice none 0 0)) : OpV C (.binOp .eql t x y t') ty E L (.bool p.isNone) L :=
  pureV fun d pos aft g a w ha => by
    rw [run_bin d pos aft g (ha.eval hx) (ha.eval hy) (by simp [eqGuard])]
    have h := run_equal_sl ht (p := p) (n := n) (c := c) 9999 w
    simp only [binOp, Op.equal, Op.maxDepth, Sem.run_bind, h, Result.andThen_ok, Sem.run_pure]
theorem run_equal_fn {t : TypeId} {ps rs : Array TypeId} {va : Bool} {f : Fn} {fs cs : Array Value} (ht : C.P.underlying t = some (.func ps rs va)) (d : Nat) (w : World) : (Op.equalIn (d + 1) t (.func f fs cs) .nilFunc).run C.P w = .ok false w := by
  simp [Op.equalIn, run_underlying ht]
def funcB (P : Program) (t : TypeId) : Bool := match P.underlying t with | some (.func _ _ _) => true | _ => false
theorem v_eqnilF {x y : Operand} {t t' : TypeId} {f : Fn} {fs cs : Array Value} (ht : funcB C.P t = true) (hx : evalE E x = some (.func f fs cs)) (hy : evalE E y = some .nilFunc) : OpV C (.binOp .eql t x y t') ty E L (.bool false) L :=
  pureV fun d pos aft g a w ha => by
    unfold funcB at ht
    split at ht <;> try simp at ht
    rename_i ps rs va hds
    rw [run_bin d pos aft g (ha.eval hx) (ha.eval hy) (by simp [eqGuard])]
    have h := run_equal_fn hds (f := f) (fs := fs) (cs := cs) 9999 w
    simp only [binOp, Op.equal, Op.maxDepth, Sem.run_bind, h, Result.andThen_ok, Sem.run_pure]
end
abbrev QR := Exit → Act → World → Prop
def WpR (C : Ctx) (c : Code) (Q : QR) (E : Env) (L : List HProp) : Prop := ∀ a w, Agr C E a → Inv C.w0 L w → c.wp C.P Q a w
def qr (C : Ctx) (Q : QR) : QT := fun e E L => ∀ a w, Agr C E a → Inv C.w0 L w → Q e a w
section
variable {C : Ctx} {Q : QR} {E : Env} {L : List HProp}
theorem wr_of {c : Code} (h : Wp C c (qr C Q) E L) : WpR C c Q E L := fun a w ha hi =>
  Code.wp_mono (fun e a w ⟨E, L, ha, hi, q⟩ => q a w ha hi) (h a w ha hi)
theorem wr_seq {x y : Code} (h : Wp C x (thn (fun E L => WpR C y Q E L) (qr C Q)) E L) : WpR C (.seq x y) Q E L := fun a w ha hi =>
  Go.wp_seq (Code.wp_mono (fun e a w ⟨E, L, ha, hi, q⟩ => by
    cases e with
    | normal => exact q a w ha hi
    | exit _ => exact q a w ha hi
    | goto _ => exact q a w ha hi
    | ret => exact q a w ha hi
    | panic _ => exact q a w ha hi
    | outgrown => exact q a w ha hi) (h a w ha hi))
theorem wr_defer {y : Code} {id d : Nat} {fn : FuncId} {caps : List Operand} {cs : List Value} {ty1 ty2 : TypeId} {pos1 pos2 : String} {aft1 aft2 : Array Edge} {tys : Array TypeId} (hc : evs E caps = some cs) (hd : Nat.blt d C.n = true)
    (h : WpR { C with D := { target := .fn (.func fn) cs.toArray, args := #[] } :: C.D } y Q ((d, .func (.func fn) #[] cs.toArray) :: E) L) :
    WpR C (.seq (.region id [⟨some d, .makeFunc (.func fn) #[] caps.toArray, ty1, pos1, aft1, none⟩, ⟨none, .defer ⟨.value (.tmp d), #[], tys⟩, ty2, pos2, aft2, none⟩].toArray false) y) Q E L := fun a w ha hi => by
  refine Go.wp_seq (wp_region_lit ?_)
  refine wpList_plain rfl (fun K hK => ?_)
  have h1 : (execOp a.eval ⟨some d, .makeFunc (.func fn) #[] caps.toArray, ty1, pos1, aft1, none⟩).run C.P w = .ok (.value (.func (.func fn) #[] cs.toArray)) w := by
    simp only [execOp, Instr.makeFunc, ha.evs hc, Sem.run_bind, Sem.run_pure, Result.andThen_ok, Array.map_empty]
  unfold Oper.wp
  rw [h1]
  refine hK _ _ ?_
  have ha2 := ha.put (blt_lt hd) (.func (.func fn) #[] cs.toArray)
  refine wpList_plain rfl (fun K hK => ?_)
  have hev := ha2.eval (x := .tmp d) (v := .func (.func fn) #[] cs.toArray) (by simp [evalE, Env.get_cons])
  have h2 : (execOp (a.put (some d) (.func (.func fn) #[] cs.toArray)).eval ⟨none, .defer ⟨.value (.tmp d), #[], tys⟩, ty2, pos2, aft2, none⟩).run C.P w = .ok (.defer { target := .fn (.func fn) cs.toArray, args := #[] }) w := by
    simp [execOp, resolve, hev, Deferred.ofValue]
  unfold Oper.wp
  rw [h2]
  refine hK _ _ (wpList_nil ?_)
  have ha3 : Agr { C with D := { target := .fn (.func fn) cs.toArray, args := #[] } :: C.D } ((d, .func (.func fn) #[] cs.toArray) :: E) { a.put (some d) (.func (.func fn) #[] cs.toArray) with defers := { target := .fn (.func fn) cs.toArray, args := #[] } :: (a.put (some d) (.func (.func fn) #[] cs.toArray)).defers } :=
    ⟨by simp [ha2.defers], ha2.size, ha2.get⟩
  exact h _ _ ha3 hi
end
theorem spec_ofD {P : Program} {f : FuncId} {fn : Func} {c : Code} {args : List Value} {Pre : List HProp} {Post : Ending → List HProp → Prop} {n : Nat} (E : Env) (hf : P.funcs[f]? = some fn) (hb : fn.body = some c) (hn : fn.ntmps = n) (hE : argE 0 args = E) (hl : Nat.ble args.length n = true)
    (h : ∀ w0 F, WpR ⟨P, w0, n, [], fun _ _ => False⟩ c (bodyPostD P fn fun e w' => ∃ G, Inv w0 (G ++ F) w' ∧ Post e G) E (Pre ++ F)) : Ctr P f args Pre Post := by
  intro w0 F w hi
  have hl := Nat.le_of_ble_eq_true hl
  refine calls_of_wp_defers hf hb (h w0 F _ w ?_ hi)
  refine ⟨rfl, ?_, ?_⟩
  · simp [hn]; omega
  · intro d v hd
    rw [← hE] at hd
    obtain ⟨_, h2⟩ := argE_get 0 args d v hd
    have hlt := (List.getElem?_eq_some_iff.1 h2).1
    simp at h2 hlt ⊢
    rw [Array.getElem?_append_left (by simpa using hlt)]
    simpa using h2
section
variable {C : Ctx} {Q : QT} {E E0 : Env} {L F : List HProp} {ops : Array Oper} {ty : TypeId} {pos : String} {aft : Array Edge}
variable {l : List Oper} {ts : List Tok} {i : Nat} {c : AccN} {o : Oper} {os : List Oper} {ps : List Par} {K : AccN → Prop} {A0 : List HProp}
end
end Go.Sl
namespace Go.Sl
def methB (P : Program) (t : TypeId) (name : String) : Option FuncId := match (P.info? t).bind fun i => i.methods.find? (·.name == name) with
  | some m => if m.path.isEmpty then (match m.func, P.underlying t with
    | some (_, false), some (.pointer _) => none
    | some (f, false), some _ => some f
    | some (f, true), some (.pointer _) => some f
    | _, _ => none) else none
  | none => none
section
variable {C : Ctx} {Q : QT} {E : Env} {L L' F : List HProp} {ops : Array Oper} {rest : List Oper} {d : Nat} {ty : TypeId} {pos : String} {aft : Array Edge} {op : Op} {v : Value}
theorem run_program (w : World) : (Sem.program Sem.pure).run C.P w = .ok C.P w := rfl
theorem run_method {t : TypeId} {name : String} {f : FuncId} {u : Value} (hm : methB C.P t name = some f) (n : Nat) (w : World) : (Go.method (n + 1) t u name).run C.P w = .ok (f, u) w := by
  unfold methB at hm
  cases hi : C.P.info? t with
  | none => rw [hi] at hm; cases hm
  | some i =>
    rw [hi] at hm
    simp only [Option.bind_some] at hm
    cases hf : i.methods.find? (·.name == name) with
    | none => rw [hf] at hm; cases hm
    | some m =>
      rw [hf] at hm
      simp only at hm
      split at hm
      · rename_i hp
        have hp' : m.path = #[] := by simpa using hp
        split at hm
        · cases hm
        · rename_i x1 f' dd hn hq hu
          cases hm
          have : ∀ z, (receiverAt t (.val u) false z).run C.P w = .ok u w := fun z => by
            unfold receiverAt
            simp only [Sem.run_bind, run_underlying hu, Result.andThen_ok]
            cases dd <;> first | (exfalso; exact hn _ rfl) | simp [Place.get]
          simp [Go.method, typeInfo, hi, hf, hp', hq, follow, this]
        · rename_i x1 f' e' hq hu
          cases hm
          have : ∀ z, (receiverAt t (.val u) true z).run C.P w = .ok u w := fun z => by
            unfold receiverAt
            simp [Sem.run_bind, run_underlying hu, Result.andThen_ok, Place.get]
          simp [Go.method, typeInfo, hi, hf, hp', hq, follow, this]
        · cases hm
      · cases hm
theorem v_prefS {x z : Operand} {t : TypeId} {s u : ByteArray} {k : IntKind} {n : Int} (ht : C.P.underlying t = some .string) (h : evalE E x = some (.string s)) (hz : evalE E z = some (.int k n)) (h0 : 0 ≤ n) (h1 : n ≤ s.size) (hu : s.extract 0 n.toNat = u) : OpV C (.slice t x none (some z) none) ty E L (.string u) L :=
  pureV fun d pos aft g a w ha => by
    subst hu
    simp [execOp, ha.eval h, ha.eval hz, Instr.sliceAt, Instr.slice, Instr.sliceBounds, run_underlying ht, Instr.sliceBound, asIntOf, h0, h1]
theorem v_lenS {x : Operand} {t : TypeId} {s : ByteArray} {n : Nat} (ht : C.P.underlying t = some .string) (h : evalE E x = some (.string s)) (hn : s.size = n) : OpV C (.call ⟨.builtin .len, [x].toArray, #[t]⟩) ty E L (.int .i64 n) L :=
  pureV fun d pos aft g a w ha => by subst hn; simp [execOp, resolve, invoke, builtin, Builtin.len_, ha.eval h, run_underlying ht, goInt]
theorem flat_u8 (l : List Int) : l.flatMap (fun x => [Value.int .u8 x]) = l.map (Value.int .u8) := by
  induction l with
  | nil => rfl
  | cons a l ih => simp [List.flatMap_cons, ih]
theorem s_str {T : TypeId} {x : Operand} {src dst e : TypeId} {p : Option Addr} {n cap : Nat} {l : List Int} (hs : C.P.underlying src = some (.slice e)) (he : C.P.underlying e = some (.int .u8)) (hd : C.P.underlying dst = some .string) (hx : evalE E x = some (.slice p n cap)) (H : Has C.w0 L (ecI T .u8) p n l) : OpV C (.convert src dst x) ty E L (.string (strOfNums l)) L :=
  fun d pos aft g a w ha hi => by
    refine ⟨w, .inl ?_, hi, fun h => by cases h⟩
    obtain ⟨R, hm, hR⟩ := H
    have hh := hi.mem hm
    have hlen : l.length = n := Has.len ⟨R, hm, hR⟩ hi
    obtain ⟨e1, e2⟩ := hi.rd hm (fun h hh => (hR h hh).2)
    have hconv : (convert src dst (.slice p n cap)).run C.P w = .ok (.string (strOfNums l)) w := by
      cases p with
      | none =>
        have h0 : n = 0 := by
          rcases e2 with h | ⟨b, o, h, _⟩
          · exact h
          · cases h
        have hl : l = [] := List.length_eq_zero_iff.1 (by omega)
        rw [run_convert_bytes_nil w src e hs he n cap dst hd, hl]
        rfl
      | some q =>
        rcases e2 with h | ⟨b, o, h, hc⟩
        · have hl : l = [] := List.length_eq_zero_iff.1 (by omega)
          subst hl
          subst h
          rw [run_convert_bytes_string w src dst e _ 0 cap hs he hd, run_bytesToString w q 0 cap [] (by simp [loadCells, loadCellsFrom])]
          rfl
        · cases h
          refine run_convert_bytes_arg w src e hs he b o n cap l hlen (fun i hi2 => ?_) dst hd
          refine hc i _ ?_
          rw [flat_u8]
          have hil : i < l.length := by omega
          simp [List.getElem?_map, List.getD_eq_getElem?_getD, hil]
    simp only [execOp, ha.eval hx, Sem.run_bind, hconv, Result.andThen_ok, Sem.run_pure]
theorem s_eq {x y : Operand} {t t' : TypeId} {s u : ByteArray} {r : Bool} (hx : evalE E x = some (.string s)) (hy : evalE E y = some (.string u)) (hr : (s.toList == u.toList) = r) : OpV C (.binOp .eql t x y t') ty E L (.bool r) L :=
  pureV fun d pos aft g a w ha => by
    rw [run_bin d pos aft g (ha.eval hx) (ha.eval hy) (by simp [eqGuard])]
    simp [binOp, Op.stringOp, ← hr, Sem.run_pure]
theorem zero_flat (zs : List Value) (m : Nat) : List.map (fun i => zs[i % zs.length]?.getD default) (List.range (m * zs.length)) = (List.replicate m zs).flatten := by
  induction m with
  | zero => simp
  | succ m ih =>
    rw [Nat.succ_mul, List.range_add, List.map_append, ih, List.replicate_succ', List.flatten_append, List.flatten_singleton, List.map_map]
    congr 1
    refine List.ext_getElem (by simp) (fun j h1 h2 => ?_)
    simp only [List.getElem_map, List.getElem_range, Function.comp_apply]
    rw [Nat.mul_add_mod', Nat.mod_eq_of_lt h2, List.getElem?_eq_getElem h2]
    rfl
theorem x_appendZ {s x : Operand} {t tI e sz by_ n m cap : Nat} {p : Option Addr} {vs zs : List Value} {k k' : IntKind} {R : HProp}
    (ht : sliceB C.P t = some (e, sz, by_)) (hI : C.P.underlying tI = some (.int k')) (hz : zeroB C.P e = some zs) (hsz : Nat.ble 1 sz = true) (hby : Nat.ble 1 by_ = true)
    (hs : evalE E s = some (.slice p n cap)) (hx : evalE E x = some (.int k (m : Int)))
    (hM : R ∈ L) (hR : ∀ h, R C.w0 h → Rd p n sz vs C.w0 h) (hr : cap < n + m) (hb : (n + m) * by_ ≤ 140737488355328) :
    OpX C (.call ⟨.builtin .append, [s, x].toArray, #[t, tI]⟩) ty E L (fun v L' => ∃ p' cap', v = .slice p' (n + m) cap' ∧ L' = Sl p' (n + m) cap' e sz (vs ++ (List.replicate m zs).flatten) :: L) := by
  intro d pos aft g a w K Qx ha hi hK
  obtain ⟨ht1, i, hi2, rfl, rfl⟩ := slice_spec ht
  obtain ⟨i', z, hz1, hz2, hz3, hz4⟩ := zero_spec hz
  rw [hi2] at hz1
  cases hz1
  have hsz := Nat.le_of_ble_eq_true hsz
  have hby := Nat.le_of_ble_eq_true hby
  have hnm : n + m ≤ (n + m) * i.bytes := Nat.le_mul_of_pos_right _ hby
  have hm2 : m * i.bytes ≤ (n + m) * i.bytes := Nat.mul_le_mul_right _ (by omega)
  obtain ⟨hwl, hwc⟩ := hi.rd hM hR
  obtain ⟨consts, hrun⟩ := run_resolve_builtin (C := C) (ty := ty) (pos := pos) (aft := aft) (b := .append) (xs := [s, x]) (tys := #[t, tI]) (vs := [.slice p n cap, .int k (m : Int)]) (a := a) (by simp [ha.eval hs, ha.eval hx]) d g w
  suffices h : ∃ p' cap' w', (Builtin.append_ #[t, tI] ty #[.slice p n cap, .int k (m : Int)]).run C.P w = .ok (.slice p' (n + m) cap') w' ∧ Inv C.w0 (Sl p' (n + m) cap' e i.size (vs ++ (List.replicate m zs).flatten) :: L) w' by
    obtain ⟨p', cap', w', hr, hi'⟩ := h
    unfold Oper.wp
    rw [hrun]
    simp only [builtin, Sem.run_bind, hr, Result.andThen_ok, Sem.run_pure]
    exact hK _ _ _ ⟨p', cap', rfl, rfl⟩ hi'
  have hw : IntKind.i64.wrap (m : Int) = m := wrapI (by omega) (by omega)
  have hfit : Builtin.nextslicecap (n + m) cap * i.bytes ≤ 281474976710656 := growslice_fits hr hb
  have h63 : ¬ (9223372036854775807 < ((n : Int) + (m : Int))) := by omega
  have h48 : ¬ (281474976710656 < Builtin.nextslicecap (n + m) cap * i.bytes) := by omega
  have hng : ¬ (n + m ≤ cap) := by omega
  have h47 : ¬ (281474976710656 < (m : Int) * (i.bytes : Int)) := by
    have : (m : Int) * (i.bytes : Int) = ((m * i.bytes : Nat) : Int) := by simp
    omega
  have hzz : ¬ (m * i.size = 0) ∨ m = 0 := by
    rcases Nat.eq_zero_or_pos m with h | h
    · exact .inr h
    · exact .inl (by have := Nat.mul_pos h hsz; omega)
  have hzc : (if m * i.size = 0 then (#[] : Array Value) else Builtin.zeroCells z.cells m).toList = (List.replicate m zs).flatten := by
    rcases hzz with h | h
    · rw [if_neg h]
      simp only [Builtin.zeroCells, hz3, hz4]
      rw [← zero_flat]
      simp
    · subst h
      simp
  have hm0 : ¬ ((m : Int) < 0) := by omega
  have hold : ∀ w1 : World, (∀ q, w1.cell? q = w.cell? q) → (Builtin.firstCells i.size n (.slice p n cap)).run C.P w1 = .ok vs.toArray w1 := by
    intro w1 hw1
    by_cases hn0 : n = 0
    · subst hn0
      simp at hwl
      subst hwl
      cases p <;> simp [Builtin.firstCells, loadCells, loadCellsFrom]
    · rcases hwc with hwc | ⟨b2, o2, rfl, hc⟩
      · exact absurd hwc hn0
      · exact run_firstCells_some (P := C.P) w1 i.size n _ n cap vs hwl (fun j v hj => by rw [hw1, Addr.add_mk]; exact hc j v hj)
  refine ⟨some ⟨w.heap.size, 0, none⟩, grownCap w (n + m) cap e, w.drew.alloc (.cells (vs ++ (List.replicate m zs).flatten ++ (Builtin.zeroCells z.cells (grownCap w (n + m) cap e - (n + m))).toList).toArray e), ?_, ?_⟩
  · have e1 := hold w.drew (fun q => by simp)
    have harr : ∀ Z : Array Value, (vs ++ (List.replicate m zs).flatten ++ Z.toList).toArray = vs.toArray ++ (if m * i.size = 0 then (#[] : Array Value) else Builtin.zeroCells z.cells m) ++ Z := fun Z => by apply Array.ext'; simp [← hzc]
    rw [harr]
    rcases Decidable.em (m * i.size = 0) with h0 | h0
    · simp [Builtin.append_, run_underlying ht1, run_underlying hI, sizeOf, typeInfo, zeroValue, hi2, hz2, hng, h63, h48, h47, Question.forced, e1, newRow, grownCap, asInt, asIntOf, hw, h0, hm0]
    · simp [Builtin.append_, run_underlying ht1, run_underlying hI, sizeOf, typeInfo, zeroValue, hi2, hz2, hng, h63, h48, h47, Question.forced, e1, newRow, grownCap, asInt, asIntOf, hw, h0, hm0]
  · have hge := grownCap_ge w (n + m) cap e
    refine Inv.imp ?_ (hi.drew.alloc e (vs ++ (List.replicate m zs).flatten ++ (Builtin.zeroCells z.cells (grownCap w (n + m) cap e - (n + m))).toList))
    intro h hc
    have hzl : zs.length = i.size := hz4.symm
    refine .inr ⟨_, 0, [], (Builtin.zeroCells z.cells (grownCap w (n + m) cap e - (n + m))).toList, rfl, by simpa using hc, rfl, ?_, ?_, hge⟩
    · simp [hwl, hzl, Nat.add_mul]
    · have : z.cells.size = i.size := by rw [hz3, hz4]; simp
      simp [size_zeroCells, this]
theorem resC2 {t u T n b T' : Nat} {cs : List Value} {v2 : Value} (hs : aggB C.P T = some n) (h1 : E.get t = some (.pointer (some ⟨b, 0, none⟩))) (hm : Cel b T' cs ∈ L) (hn : cs.length = n) (h2 : E.get u = some v2) : ResE C #[.cell t T, .tmp u] E L (.tuple #[.agg cs.toArray, v2]) := fun fn a w hr ha hi => by
  obtain ⟨g1, g2⟩ := agg_spec hs w
  obtain ⟨F, hF⟩ := hi.mem hm
  have := run_loadCells_list (P := C.P) w ⟨b, 0, none⟩ cs (fun j v hj => by rw [Addr.add_mk, hF.cel_cell, ← hj]; simp)
  rw [hn] at this
  simp [results, hr, ha.get _ _ h1, ha.get _ _ h2, asAddr, loadVar, g1, g2, this]
def Blk (b : Nat) (o : Obj) : HProp := fun _ h => h b = some o
theorem Inv.put {w0 w w' : World} {b : Nat} {T : TypeId} {cs : List Value} {o' : Obj} {L : List HProp} (hi : Inv w0 (Cel b T cs :: L) w)
    (hos : w'.os = w.os) (ht : w'.tape = w.tape) (ho : w'.output = w.output) (hs : w.heap.size ≤ w'.heap.size)
    (hblk : w'.heap[b]? = some o') (hoth : ∀ k, k ≠ b → k < w.heap.size → w'.heap[k]? = w.heap[k]?) : Inv w0 (Blk b o' :: L) w' := by
  have hge := hi.cel_ge
  obtain ⟨hb, h, a, h1, h2, d, l1, l2, ⟨_, p⟩, k⟩ := hi
  have hlt : ∀ j o, w.heap[j]? = some o → j < w.heap.size := fun j o e => by
    rcases Nat.lt_or_ge j w.heap.size with h | h
    · exact h
    · simp [Array.getElem?_eq_none h] at e
  have hd : Hp.disj (fun n => if n = b then some o' else none) h2 := fun n => by
    by_cases e : n = b
    · right
      rcases d n with x | x
      · rw [e, p] at x; cases x
      · exact x
    · left; simp [e]
  refine ⟨hb.trans ⟨hos, ht, ho, hs, fun j hj => ?_⟩, Hp.join _ h2, ?_, _, h2, hd, Hp.le_join_left _ _, Hp.le_join_right hd, by simp [Blk], k⟩
  · have := hb.size
    exact hoth j (by omega) (by omega)
  · intro j o e
    unfold Hp.join at e
    by_cases hj : j = b
    · subst hj
      simp at e
      subst e
      exact ⟨hge, hblk⟩
    · simp [hj] at e
      obtain ⟨g1, g2⟩ := a j o (l2 j o e)
      exact ⟨g1, by rw [hoth j hj (hlt j o g2)]; exact g2⟩
end
end Go.Sl
namespace Go.Sl
inductive Fr where
  | sq (c : Code)
  | bk (id : Nat)
  | lp (J : Env → List HProp → Prop)
def KF (C : Ctx) (Q : QT) : List Fr → QT
  | [] => Q
  | .sq c :: fr => thn (fun E L => Wp C c (KF C Q fr) E L) (KF C Q fr)
  | .bk i :: fr => blk i (KF C Q fr)
  | .lp J :: fr => thn J (KF C Q fr)
inductive Pos where
  | code (c : Code)
  | ops (all : Array Oper) (l : List Oper)
  | norm
  | exit (i : Nat)
  | ret
structure St where
  fr : List Fr
  E : Env
  pos : Pos
@[reducible] def den (C : Ctx) (Q : QT) (L : List HProp) : St → Prop
  | ⟨fr, E, .code c⟩ => Wp C c (KF C Q fr) E L
  | ⟨fr, E, .ops all l⟩ => Ops C all l (KF C Q fr) E L
  | ⟨fr, E, .norm⟩ => KF C Q fr .normal E L
  | ⟨fr, E, .exit i⟩ => KF C Q fr (.exit i) E L
  | ⟨fr, E, .ret⟩ => KF C Q fr .ret E L
structure Tab where
  sl : List Nat
  fd : List (Nat × Nat × Nat)
def isSl (P : Program) (t : Nat) : Bool := match P.underlying t with | some (.slice _) => true | _ => false
def okT (P : Program) (T : Tab) : Bool := T.sl.all (isSl P) && T.fd.all fun x => match fieldB P x.1 x.2.1 with | some o => Nat.beq o x.2.2 | none => false
def memN (t : Nat) : List Nat → Bool
  | [] => false
  | a :: l => cond (Nat.beq a t) true (memN t l)
def findF (s f : Nat) : List (Nat × Nat × Nat) → Option Nat
  | [] => none
  | x :: l => cond (Nat.beq x.1 s && Nat.beq x.2.1 f) (some x.2.2) (findF s f l)
def inI (n : Int) : Prop := -9223372036854775808 ≤ n ∧ n ≤ 9223372036854775807
def evalOp (T : Tab) (E : Env) : Op → Option (Option Prop × Value)
  | .move x => (match evalE E x with | some v => some (none, v) | none => none)
  | .assign x => (match evalE E x with | some v => some (none, v) | none => none)
  | .pick c x y => (match evalE E c with
    | some (.bool true) => (match evalE E x with | some v => some (none, v) | none => none)
    | some (.bool false) => (match evalE E y with | some v => some (none, v) | none => none)
    | _ => none)
  | .nilCheck x => (match evalE E x with | some (.pointer (some p)) => some (none, .pointer (some p)) | _ => none)
  | .extract x i => (match evalE E x with | some (.tuple vs) => (match vs[i]? with | some v => some (none, v) | none => none) | _ => none)
  | .unOp .not _ x => (match evalE E x with | some (.bool true) => some (none, .bool false) | some (.bool false) => some (none, .bool true) | _ => none)
  | .fieldAddr s x f => (match evalE E x with | some (.pointer (some ⟨b, p, none⟩)) => (match findF s f T.fd with | some o => some (none, .pointer (some ⟨b, p + o, none⟩)) | none => none) | _ => none)
  | .call ⟨.builtin bi, ⟨[x]⟩, ⟨[t]⟩⟩ => (match evalE E x with
    | some (.slice _ n c) => (match memN t T.sl with
      | true => (match bi with
        | .len => some (none, .int .i64 n)
        | .cap => some (none, .int .i64 c)
        | _ => none)
      | false => none)
    | _ => none)
  | .binOp o _ x y _ => (match evalE E x, evalE E y with
    | some (.int k m), some (.int k' n) => (match decEq k k' with
      | .isTrue _ => (match o with
        | .lss => some (none, .bool (decide (m < n)))
        | .leq => some (none, .bool (decide (m ≤ n)))
        | .gtr => some (none, .bool (decide (n < m)))
        | .geq => some (none, .bool (decide (n ≤ m)))
        | .eql => some (none, .bool (decide (m = n)))
        | .neq => some (none, .bool (decide (m ≠ n)))
        | .add => (match k with | .i64 => some (some (-9223372036854775808 ≤ m + n ∧ m + n ≤ 9223372036854775807), .int .i64 (m + n)) | _ => none)
        | .sub => (match k with | .i64 => some (some (-9223372036854775808 ≤ m - n ∧ m - n ≤ 9223372036854775807), .int .i64 (m - n)) | _ => none)
        | .mul => (match k with | .i64 => some (some (-9223372036854775808 ≤ m * n ∧ m * n ≤ 9223372036854775807), .int .i64 (m * n)) | _ => none)
        | _ => none)
      | .isFalse _ => none)
    | _, _ => none)
  | _ => none
def okP : Option Prop → Prop
  | none => True
  | some p => p
def guardS (all : Array Oper) (E : Env) (j : Nat) (want : Bool) : Option Bool :=
  match all[j]? with
  | some o => (match o.dst with
    | some t => (match E.get t with
      | some (.bool true) => some want
      | some (.bool false) => some (!want)
      | some (.tuple vs) => (match vs with | ⟨[]⟩ => some false | _ => none)
      | _ => none)
    | none => none)
  | none => none
def stepS (T : Tab) (n : Nat) : St → Option (Option Prop × St)
  | ⟨fr, E, .code c⟩ => (match c with
    | .seq x y => some (none, ⟨.sq y :: fr, E, .code x⟩)
    | .block i x => some (none, ⟨.bk i :: fr, E, .code x⟩)
    | .skip => some (none, ⟨fr, E, .norm⟩)
    | .exit i => some (none, ⟨fr, E, .exit i⟩)
    | .ret => some (none, ⟨fr, E, .ret⟩)
    | .region _ a d => (match d with | false => some (none, ⟨fr, E, .ops a a.toList⟩) | true => none)
    | .cond x a b => (match evalE E x with | some (.bool true) => some (none, ⟨fr, E, .code a⟩) | some (.bool false) => some (none, ⟨fr, E, .code b⟩) | _ => none)
    | _ => none)
  | ⟨fr, E, .ops all l⟩ => (match l with
    | [] => some (none, ⟨fr, E, .norm⟩)
    | o :: os => (match o.dst with
      | none => none
      | some d => (match Nat.blt d n with
        | false => none
        | true => (match o.guard with
          | none => (match evalOp T E o.op with | some (q, v) => some (q, ⟨fr, (d, v) :: E, .ops all os⟩) | none => none)
          | some (j, want) => (match guardS all E j want with
            | some true => (match evalOp T E o.op with | some (q, v) => some (q, ⟨fr, (d, v) :: E, .ops all os⟩) | none => none)
            | some false => some (none, ⟨fr, (d, undef) :: E, .ops all os⟩)
            | none => none)))))
  | ⟨fr, E, .norm⟩ => (match fr with
    | .sq c :: fr => some (none, ⟨fr, E, .code c⟩)
    | .bk _ :: fr => some (none, ⟨fr, E, .norm⟩)
    | _ => none)
  | ⟨fr, E, .exit i⟩ => (match fr with
    | .bk j :: fr => (match Nat.beq i j with | true => some (none, ⟨fr, E, .norm⟩) | false => some (none, ⟨fr, E, .exit i⟩))
    | .sq _ :: fr => some (none, ⟨fr, E, .exit i⟩)
    | .lp _ :: fr => some (none, ⟨fr, E, .exit i⟩)
    | [] => none)
  | ⟨fr, E, .ret⟩ => (match fr with
    | _ :: fr => some (none, ⟨fr, E, .ret⟩)
    | [] => none)
def runS (T : Tab) (n : Nat) : Nat → St → Option Prop → Option (Option Prop × St)
  | 0, s, p => some (p, s)
  | k + 1, s, p => match stepS T n s with
    | some (none, s') => runS T n k s' p
    | some (some q, s') => (match p with | none => runS T n k s' (some q) | some p => runS T n k s' (some (p ∧ q)))
    | none => none
section
variable {C : Ctx} {Q : QT} {L : List HProp} {E : Env} {fr : List Fr}
variable {T : Tab} {c : Code} {all : Array Oper} {l : List Oper} {s' : St} {J : Env → List HProp → Prop} {p : Prop}
end
end Go.Sl
namespace Go.Sl
def OpsR (C : Ctx) (all : Array Oper) (l : List Oper) (Q : QT) (E : Env) (L : List HProp) : Prop := ∀ a w, Agr C E a → Inv C.w0 L w → wpStill C.P all w (fun a' => Qh C Q .normal a' w) l a
def lexGo (all : Array Oper) : Nat → List Oper → Bool
  | _, [] => true
  | i, o :: os => o.after.toList.all (fun e => !Region.binds .any e || Nat.blt e.on i) && os.all (fun oj => oj.after.toList.any (fun e => Region.binds .any e && Nat.beq e.on i) || o.apart all oj) && lexGo all (i + 1) os
def rdB (l : List Oper) : Bool := l.all (fun o => noSelect o.op) && lexGo l.toArray 0 l
theorem lexGo_at {all : Array Oper} : ∀ {l : List Oper} {i : Nat}, lexGo all i l = true → ∀ {k : Nat} {o : Oper}, l[k]? = some o → (∀ e ∈ o.after.toList, Region.binds .any e = true → e.on < i + k) ∧ ∀ j oj, k < j → l[j]? = some oj → (∃ e ∈ oj.after.toList, Region.binds .any e = true ∧ e.on = i + k) ∨ o.apart all oj = true
  | [], i, _, k, o, h => by simp at h
  | x :: l, i, hB, 0, o, h => by
    simp at h
    subst h
    simp only [lexGo, Bool.and_eq_true] at hB
    refine ⟨fun e he hb => ?_, fun j oj hj hoj => ?_⟩
    · have := List.all_eq_true.1 hB.1.1 e he
      rw [hb] at this
      simpa using blt_lt (by simpa using this)
    · obtain ⟨j, rfl⟩ : ∃ j', j = j' + 1 := ⟨j - 1, by omega⟩
      have := List.all_eq_true.1 hB.1.2 oj (List.mem_of_getElem? (by simpa using hoj))
      simp only [Bool.or_eq_true, List.any_eq_true, Bool.and_eq_true] at this
      rcases this with ⟨e, he, h1, h2⟩ | h
      · exact .inl ⟨e, he, h1, Nat.eq_of_beq_eq_true h2⟩
      · exact .inr h
  | x :: l, i, hB, k + 1, o, h => by
    simp only [lexGo, Bool.and_eq_true] at hB
    obtain ⟨h1, h2⟩ := lexGo_at hB.2 (by simpa using h : l[k]? = some o)
    refine ⟨fun e he hb => by have := h1 e he hb; omega, fun j oj hj hoj => ?_⟩
    obtain ⟨j, rfl⟩ : ∃ j', j = j' + 1 := ⟨j - 1, by omega⟩
    rcases h2 j oj (by omega) (by simpa using hoj) with ⟨e, he, hb, hon⟩ | h
    · exact .inl ⟨e, he, hb, by omega⟩
    · exact .inr h
def preA (n k : Nat) : Array Bool := ((List.range n).map fun j => decide (j < k)).toArray
theorem preA_get {n k j : Nat} (d : Bool) (h : j < n) : (preA n k).getD j d = decide (j < k) := by
  simp [preA, h]
theorem preA_set {n k : Nat} (h : k < n) : (preA n k).setIfInBounds k true = preA n (k + 1) := by
  apply Array.ext
  · simp [preA]
  · intro i h1 h2
    simp [preA] at h1 h2
    rw [Array.getElem_setIfInBounds (by simpa [preA] using h1)]
    simp only [preA, List.getElem_toArray, List.getElem_map, List.getElem_range]
    by_cases e : k = i
    · subst e; simp
    · rw [if_neg e]
      rw [decide_eq_decide]
      omega
theorem lex_of {l : List Oper} (hB : lexGo l.toArray 0 l = true) : ∀ (m k : Nat), k + m = l.length → Region.lexFrom .any l.toArray m k (preA l.length k) = true
  | 0, k, h => by
    simp only [Region.lexFrom, List.isEmpty_iff]
    apply List.eq_nil_iff_forall_not_mem.2
    intro i hi
    obtain ⟨h1, o, ho, _⟩ := mem_ready.1 hi
    have hlt : i < l.length := by
      have : l[i]? = some o := by simpa using ho
      exact (List.getElem?_eq_some_iff.1 this).1
    rw [preA_get _ hlt] at h1
    simp at h1
    omega
  | m + 1, k, h => by
    have hk : k < l.length := by omega
    obtain ⟨o, ho⟩ : ∃ o, l[k]? = some o := ⟨l[k], List.getElem?_eq_getElem hk⟩
    obtain ⟨h1, h2⟩ := lexGo_at hB ho
    rw [Nat.zero_add] at h1 h2
    have hoA : l.toArray[k]? = some o := by simpa using ho
    simp only [Region.lexFrom, Bool.and_eq_true]
    refine ⟨⟨?_, ?_⟩, ?_⟩
    · rw [List.contains_iff_mem]
      refine mem_ready.2 ⟨by rw [preA_get _ hk]; simp, o, hoA, fun e he hb => ?_⟩
      have := h1 e (by simpa using he) hb
      rw [preA_get _ (by omega)]
      simpa using this
    · simp only [Region.free, hoA, List.all_eq_true, List.mem_range]
      intro j hj
      have hj : j < l.length := by simpa using hj
      obtain ⟨oj, hoj⟩ : ∃ oj, l[j]? = some oj := ⟨l[j], List.getElem?_eq_getElem hj⟩
      have hojA : l.toArray[j]? = some oj := by simpa using hoj
      simp only [hojA, Bool.or_eq_true]
      rcases Nat.lt_trichotomy j k with h3 | h3 | h3
      · left; right
        rw [preA_get _ hj]; simpa using h3
      · left; left; simp [h3]
      · right
        rcases h2 j oj h3 hoj with ⟨e, he, hb, hon⟩ | h
        · left
          rw [Array.any_eq_true']
          exact ⟨e, by simpa using he, by rw [hb, hon]; simp⟩
        · exact .inr h
    · rw [preA_set hk]
      exact lex_of hB m (k + 1) (by omega)
theorem lexB_of {l : List Oper} (h : rdB l = true) : Region.lexB .any l.toArray = true := by
  unfold rdB at h
  simp only [Bool.and_eq_true] at h
  have e : Array.replicate l.toArray.size false = preA l.length 0 := by
    apply Array.ext
    · simp [preA]
    · intro i h1 h2; simp [preA]
  simp only [Region.lexB, Bool.and_eq_true]
  refine ⟨?_, ?_⟩
  · unfold Region.noSelect
    rw [Array.all_eq_true_iff_forall_mem]
    intro o ho
    have := List.all_eq_true.1 h.1 o (by simpa using ho)
    unfold noSelect at this
    split <;> simp_all
  · rw [e]
    have := lex_of h.2 l.length 0 (by omega)
    simpa using this
section
variable {C : Ctx} {Q : QT} {E : Env} {L : List HProp} {ops : Array Oper} {rest : List Oper} {d : Nat} {ty : TypeId} {pos : String} {aft : Array Edge} {op : Op} {v : Value}
theorem w_rd {id : Nat} {l : List Oper} (hm : C.P.follows .mixedOrders = true) (hB : rdB l = true) (h : OpsR C l.toArray l Q E L) : Wp C (.region id l.toArray true) Q E L :=
  fun a w ha hi => wp_region_still_lit hm (lexB_of hB) (h a _ ha hi.drew)
namespace Rg
theorem o_nil (h : Q .normal E L) : OpsR C ops [] Q E L := fun a w ha hi => ⟨E, L, ha, hi, h⟩
theorem o_val (h : OpV C op ty E L v L) (hd : Nat.blt d C.n = true) (hk : roK op v = true) (k : OpsR C ops rest Q ((d, v) :: E) L) : OpsR C ops (⟨some d, op, ty, pos, aft, none⟩ :: rest) Q E L := by
  intro a w ha hi
  refine wpStill_step fun K hK => ?_
  rw [if_pos (by simp [Region.wanted])]
  obtain ⟨w', _, _, hr⟩ := h (some d) pos aft none a w ha hi
  unfold Oper.still
  rw [hr hk, Oper.stillUpon_value]
  exact hK _ (k _ _ (ha.put (blt_lt hd) _) hi)
theorem o_want {dst : Option Nat} {j : Nat} {want : Bool} (hg : guardE ops E j = some want) (h : OpsR C ops (⟨dst, op, ty, pos, aft, none⟩ :: rest) Q E L) : OpsR C ops (⟨dst, op, ty, pos, aft, some (j, want)⟩ :: rest) Q E L := by
  intro a w ha hi
  have h1 := h a w ha hi
  have hw := guard_spec (o := ⟨dst, op, ty, pos, aft, some (j, want)⟩) ha hg rfl
  unfold wpStill at h1 ⊢
  rw [if_pos (by simp [Region.wanted])] at h1
  rw [if_pos (by rw [hw]; simp)]
  exact h1
theorem o_pass {j : Nat} {want b : Bool} (hg : guardE ops E j = some b) (hb : (b == want) = false) (hd : Nat.blt d C.n = true) (h : OpsR C ops rest Q ((d, undef) :: E) L) : OpsR C ops (⟨some d, op, ty, pos, aft, some (j, want)⟩ :: rest) Q E L := by
  intro a w ha hi
  have hw := guard_spec (o := ⟨some d, op, ty, pos, aft, some (j, want)⟩) ha hg rfl
  unfold wpStill
  rw [if_neg (by rw [hw, hb]; simp)]
  exact h _ _ (ha.put (blt_lt hd) _) hi
theorem o_bool {b : Bool} (t : Nat) (ht : E.get t = some (.bool b)) (hT : b = true → OpsR C ops rest Q ((t, .bool true) :: E) L) (hF : b = false → OpsR C ops rest Q ((t, .bool false) :: E) L) : OpsR C ops rest Q E L := by
  have key : ∀ c : Bool, b = c → Le ((t, .bool c) :: E) E := fun c e => by subst e; exact Le.cons ht (Le.refl _)
  intro a w ha hi
  cases b with
  | true => exact hT rfl a w (ha.le (key _ rfl)) hi
  | false => exact hF rfl a w (ha.le (key _ rfl)) hi
theorem o_boolD {p : Prop} [Decidable p] (t : Nat) (ht : E.get t = some (.bool (decide p))) (hT : p → OpsR C ops rest Q ((t, .bool true) :: E) L) (hF : ¬ p → OpsR C ops rest Q ((t, .bool false) :: E) L) : OpsR C ops rest Q E L :=
  o_bool t ht (fun e => hT (of_decide_eq_true e)) (fun e => hF (of_decide_eq_false e))
end Rg
def runR (T : Tab) (n : Nat) (all : Array Oper) : Nat → List Oper → Env → Option Prop → Option (Option Prop × List Oper × Env)
  | 0, l, E, p => some (p, l, E)
  | k + 1, l, E, p => (match stepS T n ⟨[], E, .ops all l⟩ with
    | some (q, s) => (match s.pos with
      | .ops _ l' => (match q with
        | none => runR T n all k l' s.E p
        | some q => (match p with | none => runR T n all k l' s.E (some q) | some p => runR T n all k l' s.E (some (p ∧ q))))
      | _ => none)
    | none => none)
end
end Go.Sl

/- Walks of functions that the law reaches, and what they lean on; no conditions. -/
import Derived.Calls
import Derived.Below
import Derived.Tactics
import Derived.Orders
import Derived.Laws.Cells
import Derived.Laws.Entries
import Derived.Laws.Wrap64
import Derived.Laws.AppendOwn
import Derived.Laws.MakeOwn
import Derived.Still
set_option linter.unusedVariables false
set_option linter.unusedSimpArgs false
set_option maxRecDepth 100000
namespace Go.Sl
open Go.RowKit (Below)
abbrev Hp := Nat → Option Obj
def Hp.le (a b : Hp) : Prop := ∀ n o, a n = some o → b n = some o
def Hp.mD (a b : Hp) : Prop := ∀ n, a n = none ∨ b n = none
def Hp.join (a b : Hp) : Hp := fun n => match a n with | some o => some o | none => b n
theorem Hp.le_refl (a : Hp) : a.le a := fun _ _ h => h
theorem Hp.le_trans {a b c : Hp} (h : a.le b) (k : b.le c) : a.le c := fun n o e => k n o (h n o e)
theorem Hp.mz {a b : Hp} (h : a.mD b) : b.mD a := fun n => (h n).symm
theorem Hp.kE {a a' b b' : Hp} (h : a.mD b) (ha : a'.le a) (hb : b'.le b) : a'.mD b' := fun n => by
  rcases h n with h | h
  · left
    cases e : a' n with
    | none => rfl
    | some o => rw [ha n o e] at h; cases h
  · right
    cases e : b' n with
    | none => rfl
    | some o => rw [hb n o e] at h; cases h
theorem Hp.kt (a b : Hp) : a.le (a.join b) := fun n o h => by simp [Hp.join, h]
theorem Hp.jX {a b : Hp} (hd : a.mD b) : b.le (a.join b) := fun n o h => by
  rcases hd n with e | e
  · simp [Hp.join, e, h]
  · rw [e] at h; cases h
theorem Hp.join_le {a b c : Hp} (h : a.le c) (k : b.le c) : (a.join b).le c := fun n o e => by
  unfold Hp.join at e
  split at e
  · rename_i x hx; cases e; exact h n _ hx
  · exact k n o e
theorem Hp.qA {a b c : Hp} (h : a.mD c) (k : b.mD c) : (a.join b).mD c := fun n => by
  rcases h n with e | e
  · rcases k n with e' | e'
    · left; simp [Hp.join, e, e']
    · exact .inr e'
  · exact .inr e
abbrev ad := World → Hp → Prop
def dk (w0 : World) : List ad → Hp → Prop
  | [], _ => True
  | p :: l, h => ∃ h1 h2, Hp.mD h1 h2 ∧ Hp.le h1 h ∧ Hp.le h2 h ∧ p w0 h1 ∧ dk w0 l h2
theorem qT {w0 : World} : ∀ {L : List ad} {h h' : Hp}, Hp.le h h' → dk w0 L h → dk w0 L h'
  | [], _, _, _, _ => trivial
  | _ :: _, _, _, hl, ⟨h1, h2, d, l1, l2, p, r⟩ => ⟨h1, h2, d, Hp.le_trans l1 hl, Hp.le_trans l2 hl, p, r⟩
theorem kT {w0 : World} : ∀ {L M : List ad} {h : Hp}, dk w0 (L ++ M) h ↔ ∃ h1 h2, Hp.mD h1 h2 ∧ Hp.le h1 h ∧ Hp.le h2 h ∧ dk w0 L h1 ∧ dk w0 M h2
  | [], M, h => ⟨fun k => ⟨fun _ => none, h, fun _ => .inl rfl, fun _ _ e => by simp at e, Hp.le_refl _, trivial, k⟩, fun ⟨_, _, _, _, l, _, k⟩ => qT l k⟩
  | p :: L, M, h => by
    constructor
    · rintro ⟨h1, h2, d, l1, l2, hp, k⟩
      obtain ⟨g1, g2, d', m1, m2, k1, k2⟩ := kT.1 k
      refine ⟨h1.join g1, g2, ?_, ?_, Hp.le_trans m2 l2, ?_, k2⟩
      · exact Hp.qA (Hp.kE d (Hp.le_refl _) m2) d'
      · exact Hp.join_le l1 (Hp.le_trans m1 l2)
      · exact ⟨h1, g1, Hp.kE d (Hp.le_refl _) m1, Hp.kt _ _, Hp.jX (Hp.kE d (Hp.le_refl _) m1), hp, k1⟩
    · rintro ⟨h1, h2, d, l1, l2, ⟨g1, g2, d', m1, m2, hp, k1⟩, k2⟩
      refine ⟨g1, g2.join h2, ?_, Hp.le_trans m1 l1, ?_, hp, ?_⟩
      · exact Hp.mz (Hp.qA (Hp.mz d') (Hp.mz (Hp.kE d m1 (Hp.le_refl _))))
      · exact Hp.join_le (Hp.le_trans m2 l1) l2
      · exact kT.2 ⟨g2, h2, Hp.kE d m2 (Hp.le_refl _), Hp.kt _ _, Hp.jX (Hp.kE d m2 (Hp.le_refl _)), k1, k2⟩
theorem CF {w0 : World} {L M : List ad} (hp : L.Perm M) : ∀ {h : Hp}, dk w0 L h → dk w0 M h := by
  induction hp with
  | nil => exact fun k => k
  | cons p _ ih => exact fun ⟨h1, h2, d, l1, l2, hp, k⟩ => ⟨h1, h2, d, l1, l2, hp, ih k⟩
  | swap p q l =>
    rintro h ⟨h1, h2, d, l1, l2, hp, g1, g2, d', m1, m2, hq, k⟩
    refine ⟨g1, h1.join g2, ?_, Hp.le_trans m1 l2, ?_, hq, h1, g2, ?_, Hp.kt _ _, ?_, hp, k⟩
    · exact Hp.mz (Hp.qA (Hp.kE d (Hp.le_refl _) m1) (Hp.mz d'))
    · exact Hp.join_le l1 (Hp.le_trans m2 l2)
    · exact Hp.kE d (Hp.le_refl _) m2
    · exact Hp.jX (Hp.kE d (Hp.le_refl _) m2)
  | trans _ _ ih1 ih2 => exact fun k => ih2 (ih1 k)
structure Inv (w0 : World) (L : List ad) (w : World) : Prop where
  below : Below w0.heap.size w0 w
  heap : ∃ h : Hp, (∀ b o, h b = some o → w0.heap.size ≤ b ∧ w.heap[b]? = some o) ∧ dk w0 L h
theorem Inv.perm {w0 w : World} {L M : List ad} (hi : Inv w0 L w) (hp : L.Perm M) : Inv w0 M w :=
  ⟨hi.below, let ⟨h, a, b⟩ := hi.heap; ⟨h, a, CF hp b⟩⟩
theorem Inv.tail {w0 w : World} {A : ad} {L : List ad} (hi : Inv w0 (A :: L) w) : Inv w0 L w :=
  ⟨hi.below, let ⟨h, a, _, _, _, _, l2, _, k⟩ := hi.heap; ⟨h, a, qT l2 k⟩⟩
theorem Inv.right {w0 w : World} {L M : List ad} (hi : Inv w0 (L ++ M) w) : Inv w0 M w :=
  ⟨hi.below, let ⟨h, a, k⟩ := hi.heap; let ⟨_, _, _, _, l2, _, k2⟩ := kT.1 k; ⟨h, a, qT l2 k2⟩⟩
theorem Inv.start (w : World) : Inv w [] w := ⟨Below.refl _ _, ⟨fun _ => none, ⟨fun _ _ e => (by simp at e), trivial⟩⟩⟩
theorem Inv.vC {w0 w : World} {A : ad} {L : List ad} {ι : Sort _} {K : ι → Prop} {B : ι → List ad} (hA : ∀ h, A w0 h → ∃ i, K i ∧ dk w0 (B i) h) (hi : Inv w0 (A :: L) w) : ∃ i, K i ∧ Inv w0 (B i ++ L) w := by
  obtain ⟨hb, h, a, h1, h2, d, l1, l2, p, k⟩ := hi
  obtain ⟨i, c, s⟩ := hA h1 p
  exact ⟨i, c, hb, h, a, kT.2 ⟨h1, h2, d, l1, l2, s, k⟩⟩
theorem Inv.cls {w0 w : World} {A : ad} {B L : List ad} (hA : ∀ h, dk w0 B h → A w0 h) (hi : Inv w0 (B ++ L) w) : Inv w0 (A :: L) w := by
  obtain ⟨hb, h, a, k⟩ := hi
  obtain ⟨h1, h2, d, l1, l2, k1, k2⟩ := kT.1 k
  exact ⟨hb, h, a, h1, h2, d, l1, l2, hA h1 k1, k2⟩
theorem Inv.imp {w0 w : World} {A B : ad} {L : List ad} (hA : ∀ h, A w0 h → B w0 h) (hi : Inv w0 (A :: L) w) : Inv w0 (B :: L) w := by
  obtain ⟨hb, h, a, h1, h2, d, l1, l2, p, k⟩ := hi
  exact ⟨hb, h, a, h1, h2, d, l1, l2, hA _ p, k⟩
def Mk (e : Bool) (n : Nat) : Nat × Nat := cond e (n, n + 1) (0, 0)
def ao (b : Nat) (T : TypeId) (cs : List Value) : ad := fun _ h => ∃ e, h b = some (.cells cs.toArray T (Mk e cs.length))
theorem ao.mono {b : Nat} {T : TypeId} {cs : List Value} {w0 : World} {g h : Hp} (l : Hp.le g h) (c : ao b T cs w0 g) : ao b T cs w0 h := let ⟨e, p⟩ := c; ⟨e, l _ _ p⟩
def Pr (p : Prop) : ad := fun _ _ => p
def pV (l : List ad) : ad := fun w0 h => dk w0 l h
theorem Inv.Ds {w0 w : World} {l L : List ad} (hi : Inv w0 (pV l :: L) w) : Inv w0 (l ++ L) w :=
  let ⟨_, _, k⟩ := Inv.vC (ι := Unit) (K := fun _ => True) (B := fun _ => l) (fun h s => ⟨(), trivial, s⟩) hi; k
theorem Inv.star {w0 w : World} {l L : List ad} (hi : Inv w0 (l ++ L) w) : Inv w0 (pV l :: L) w := Inv.cls (fun _ s => s) hi
theorem Inv.Ko {w0 w : World} {b : Nat} {T : TypeId} {cs : List Value} {L : List ad} (hi : Inv w0 (ao b T cs :: L) w) : w0.heap.size ≤ b :=
  let ⟨_, _, a, _, _, _, l1, _, ⟨_, p⟩, _⟩ := hi; (a _ _ (l1 _ _ p)).1
theorem Inv.pN {w0 w : World} {b : Nat} {T : TypeId} {cs : List Value} {L : List ad} (hi : Inv w0 (ao b T cs :: L) w) : ∃ e, w.heap[b]? = some (.cells cs.toArray T (Mk e cs.length)) :=
  let ⟨_, _, a, _, _, _, l1, _, ⟨e, p⟩, _⟩ := hi; ⟨e, (a _ _ (l1 _ _ p)).2⟩
theorem Inv.ji {w0 w : World} {b : Nat} {T : TypeId} {cs : List Value} {L : List ad} (hi : Inv w0 (ao b T cs :: L) w) (o : Nat) : w.cell? ⟨b, o, none⟩ = cs[o]? := by
  obtain ⟨e, h⟩ := hi.pN
  simp [World.cell?, h]
theorem Inv.tg {w0 w : World} {b : Nat} {T : TypeId} {cs : List Value} {L : List ad} (hi : Inv w0 (ao b T cs :: L) w) (o : Nat) (ho : o < cs.length) : w.frozen? ⟨b, o, none⟩ = false := by
  obtain ⟨e, h⟩ := hi.pN
  cases e
  · simp [World.frozen?, h, Mk]
  · simp [World.frozen?, h, Mk]; omega
theorem Inv.alloc {w0 w : World} {L : List ad} (hi : Inv w0 L w) (T : TypeId) (cs : List Value) : Inv w0 (ao w.heap.size T cs :: L) (w.alloc (.cells cs.toArray T)) := by
  obtain ⟨hb, h, a, k⟩ := hi
  have hd : Hp.mD (fun b => if b = w.heap.size then some (Obj.cells cs.toArray T (0, 0)) else none) h := fun n => by
    by_cases e : n = w.heap.size
    · right
      cases hn : h n with
      | none => rfl
      | some o =>
        have := (a n o hn).2
        rw [e] at this
        simp at this
    · left; simp [e]
  refine ⟨hb.alloc hb.size _, Hp.join _ h, ?_, _, h, hd, Hp.kt _ _, Hp.jX hd, ⟨false, by simp [Mk]⟩, k⟩
  intro b o e
  unfold Hp.join at e
  by_cases hbs : b = w.heap.size
  · subst hbs
    simp at e
    subst e
    exact ⟨hb.size, by show (w.heap.push _)[w.heap.size]? = _; simp⟩
  · simp [hbs] at e
    obtain ⟨g1, g2⟩ := a b o e
    refine ⟨g1, ?_⟩
    show (w.heap.push _)[b]? = _
    rw [Array.getElem?_push, if_neg hbs]
    exact g2
theorem Inv.write {w0 w w' : World} {b : Nat} {T : TypeId} {cs cs' : List Value} {L : List ad} (hi : Inv w0 (ao b T cs :: L) w)
    (hos : w'.os = w.os) (ht : w'.tape = w.tape) (ho : w'.output = w.output) (hs : w.heap.size ≤ w'.heap.size)
    {e' : Bool} (hblk : w'.heap[b]? = some (.cells cs'.toArray T (Mk e' cs'.length))) (hoth : ∀ k, k ≠ b → k < w.heap.size → w'.heap[k]? = w.heap[k]?) : Inv w0 (ao b T cs' :: L) w' := by
  have hge := hi.Ko
  obtain ⟨hb, h, a, h1, h2, d, l1, l2, ⟨_, p⟩, k⟩ := hi
  have hlt : ∀ j o, w.heap[j]? = some o → j < w.heap.size := fun j o e => by
    rcases Nat.lt_or_ge j w.heap.size with h | h
    · exact h
    · simp [Array.getElem?_eq_none h] at e
  have hd : Hp.mD (fun n => if n = b then some (Obj.cells cs'.toArray T (Mk e' cs'.length)) else none) h2 := fun n => by
    by_cases e : n = b
    · right
      rcases d n with x | x
      · rw [e, p] at x; cases x
      · exact x
    · left; simp [e]
  refine ⟨hb.trans ⟨hos, ht, ho, hs, fun j hj => ?_⟩, Hp.join _ h2, ?_, _, h2, hd, Hp.kt _ _, Hp.jX hd, ⟨e', by simp⟩, k⟩
  · have := hb.size
    exact hoth j (by omega) (by omega)
  · intro j o e
    unfold Hp.join at e
    by_cases hj : j = b
    · subst hj
      simp at e
      subst e
      exact ⟨hge, hblk⟩
    · simp [hj] at e
      obtain ⟨g1, g2⟩ := a j o (l2 j o e)
      exact ⟨g1, by rw [hoth j hj (hlt j o g2)]; exact g2⟩
theorem Inv.setCell {w0 w : World} {b : Nat} {T : TypeId} {cs : List Value} {L : List ad} (hi : Inv w0 (ao b T cs :: L) w) (o : Nat) (v : Value) : Inv w0 (ao b T (cs.set o v) :: L) (w.setCell ⟨b, o, none⟩ v) := by
  obtain ⟨e, hbl⟩ := hi.pN
  refine hi.write (e' := e) rfl rfl rfl (by simp) ?_ ?_
  · simp [World.setCell, Array.getElem?_modify, hbl]
  · intro k hk _
    exact Below.heap_setCell _ _ _ _ hk
theorem Inv.drew {w0 w : World} {L : List ad} (hi : Inv w0 L w) : Inv w0 L w.drew :=
  ⟨hi.below.drew, hi.heap⟩
abbrev Env := List (Nat × Value)
def Env.get : Env → Nat → Option Value
  | [], _ => none
  | (k, v) :: E, d => cond (Nat.beq k d) (some v) (Env.get E d)
structure Ctx where
  P : Program
  w0 : World
  n : Nat
  D : List Deferred
  X : List PanicEntry → List ad → Prop
structure gl (C : Ctx) (E : Env) (a : Act) : Prop where
  defers : a.defers = C.D
  size : a.tmps.size = C.n
  get : ∀ d v, E.get d = some v → a.tmps[d]? = some v
def aq (E : Env) : Operand → Option Value
  | .tmp t => E.get t
  | .const v => some v
  | .global g => some (.pointer (some ⟨g, 0, none⟩))
  | .func f => some (.func (.func f) #[] #[])
theorem gl.eval {C : Ctx} {E : Env} {a : Act} (h : gl C E a) {x : Operand} {v : Value} (e : aq E x = some v) : a.eval x = v := by
  cases x with
  | tmp t => simp only [aq] at e; simp [Act.eval, h.get t v e]
  | const u => simpa [aq, Act.eval] using e
  | global g => simpa [aq, Act.eval] using e
  | func f => simpa [aq, Act.eval] using e
theorem Env.jl (k : Nat) (v : Value) (E : Env) (d : Nat) : Env.get ((k, v) :: E) d = if k = d then some v else Env.get E d := by
  simp only [Env.get]
  by_cases h : k = d
  · subst h; simp
  · have : Nat.beq k d = false := by
      cases hb : Nat.beq k d with
      | false => rfl
      | true => exact absurd (Nat.eq_of_beq_eq_true hb) h
    simp [this, h]
theorem gl.put {C : Ctx} {E : Env} {a : Act} (h : gl C E a) {d : Nat} (hd : d < C.n) (v : Value) : gl C ((d, v) :: E) (a.put (some d) v) := by
  refine ⟨h.defers, by simp [Act.put, h.size], fun k u e => ?_⟩
  rw [Env.jl] at e
  simp only [Act.put, Array.getElem?_setIfInBounds]
  by_cases hk : d = k
  · subst hk
    simp at e
    simp [h.size, hd, e]
  · simp only [hk, if_false] at e ⊢
    exact h.get k u e
def Le (E' E : Env) : Prop := ∀ d v, E'.get d = some v → E.get d = some v
theorem gl.le {C : Ctx} {E E' : Env} {a : Act} (h : gl C E a) (l : Le E' E) : gl C E' a := ⟨h.defers, h.size, fun d v e => h.get d v (l d v e)⟩
theorem Le.refl (E : Env) : Le E E := fun _ _ e => e
theorem Le.nil (E : Env) : Le [] E := fun _ _ e => by cases e
theorem Le.cons {E E' : Env} {d : Nat} {v : Value} (h : E.get d = some v) (l : Le E' E) : Le ((d, v) :: E') E := fun k u e => by
  rw [Env.jl] at e
  by_cases hk : d = k
  · subst hk; simp at e; rw [← e]; exact h
  · simp only [hk, if_false] at e; exact l k u e
abbrev QT := Exit → Env → List ad → Prop
def Qh (C : Ctx) (Q : QT) : Exit → Act → World → Prop := fun e a w => ∃ E L, gl C E a ∧ Inv C.w0 L w ∧ Q e E L
def Wp (C : Ctx) (c : Code) (Q : QT) (E : Env) (L : List ad) : Prop := ∀ a w, gl C E a → Inv C.w0 L w → c.wp C.P (Qh C Q) a w
def dM (C : Ctx) (ops : Array Oper) (l : List Oper) (Q : QT) (E : Env) (L : List ad) : Prop := ∀ a w, gl C E a → Inv C.w0 L w → wpList C.P ops (Qh C Q) l a w
def iI (k : Env → List ad → Prop) (Q : QT) : QT := fun e E L => match e with | .normal => k E L | e => Q e E L
def lL (id : Nat) (Q : QT) : QT := fun e E L => match e with | .exit i => cond (Nat.beq i id) (Q .normal E L) (Q (.exit i) E L) | e => Q e E L
section
variable {C : Ctx} {Q : QT} {E : Env} {L : List ad}
theorem Wp.mono {c : Code} {Q' : QT} (h : Wp C c Q E L) (hq : ∀ e E L, Q e E L → Q' e E L) : Wp C c Q' E L :=
  fun a w ha hi => Code.wp_mono (fun e a w ⟨E, L, x, y, z⟩ => ⟨E, L, x, y, hq e E L z⟩) (h a w ha hi)
theorem Wp.weaken {c : Code} {E' : Env} {L' : List ad} (h : Wp C c Q E' L') (l : Le E' E) (hp : L.Perm L') : Wp C c Q E L :=
  fun a w ha hi => h a w (ha.le l) (hi.perm hp)
theorem cu {c : Code} (E' : Env) (l : Le E' E) (h : Wp C c Q E' L) : Wp C c Q E L := h.weaken l (List.Perm.refl _)
theorem Ms {c : Code} {L' : List ad} (hp : L.Perm L') (h : Wp C c Q E L') : Wp C c Q E L := h.weaken (Le.refl _) hp
theorem gD {c : Code} {A : ad} {ι : Sort _} {K : ι → Prop} {B : ι → List ad} (hA : ∀ h, A C.w0 h → ∃ i, K i ∧ dk C.w0 (B i) h)
    (k : ∀ i, K i → Wp C c Q E (B i ++ L)) : Wp C c Q E (A :: L) := fun a w ha hi => let ⟨i, c, s⟩ := hi.vC hA; k i c a w ha s
theorem jN {x y : Code} (h : Wp C x (iI (fun E L => Wp C y Q E L) Q) E L) : Wp C (.seq x y) Q E L := fun a w ha hi =>
  Go.wp_seq (Code.wp_mono (fun e a w ⟨E, L, ha, hi, q⟩ => by
    cases e with
    | normal => exact q a w ha hi
    | exit _ => exact ⟨E, L, ha, hi, q⟩
    | goto _ => exact ⟨E, L, ha, hi, q⟩
    | ret => exact ⟨E, L, ha, hi, q⟩
    | panic _ => exact ⟨E, L, ha, hi, q⟩
    | outgrown => exact ⟨E, L, ha, hi, q⟩) (h a w ha hi))
theorem bN {k : Env → List ad → Prop} (h : k E L) : iI k Q .normal E L := h
theorem KD (h : Q .normal E L) : Wp C .skip Q E L := fun a w ha hi => Go.wp_skip ⟨E, L, ha, hi, h⟩
theorem GG (h : Q .ret E L) : Wp C .ret Q E L := fun a w ha hi => Go.wp_ret ⟨E, L, ha, hi, h⟩
theorem Lj {id : Nat} (h : Q (.exit id) E L) : Wp C (.exit id) Q E L := fun a w ha hi => Go.wp_exit ⟨E, L, ha, hi, h⟩
theorem n6 {id : Nat} {c : Code} (h : Wp C c (lL id Q) E L) : Wp C (.block id c) Q E L := fun a w ha hi =>
  Go.wp_block (Code.wp_mono (fun e a w ⟨E, L, ha, hi, q⟩ => by
    cases e with
    | exit i =>
      simp only [lL] at q
      simp only [Exit.inBlock]
      by_cases hid : i = id
      · subst hid
        simp at q ⊢
        exact ⟨E, L, ha, hi, q⟩
      · have : Nat.beq i id = false := by
          cases hb : Nat.beq i id with
          | false => rfl
          | true => exact absurd (Nat.eq_of_beq_eq_true hb) hid
        simp [this] at q
        simp only [hid, if_false]
        exact ⟨E, L, ha, hi, q⟩
    | normal => exact ⟨E, L, ha, hi, q⟩
    | goto _ => exact ⟨E, L, ha, hi, q⟩
    | ret => exact ⟨E, L, ha, hi, q⟩
    | panic _ => exact ⟨E, L, ha, hi, q⟩
    | outgrown => exact ⟨E, L, ha, hi, q⟩) (h a w ha hi))
theorem ti {c : Operand} {x y : Code} {b : Bool} (hc : aq E c = some (.bool b)) (ht : b = true → Wp C x Q E L) (hf : b = false → Wp C y Q E L) : Wp C (.cond c x y) Q E L :=
  fun a w ha hi => Go.wp_cond_split (ha.eval hc) (fun e => ht e a w ha hi) (fun e => hf e a w ha hi)
theorem oC {c : Operand} {x y : Code} (hc : aq E c = some (.bool true)) (h : Wp C x Q E L) : Wp C (.cond c x y) Q E L :=
  fun a w ha hi => Go.wp_cond_true (ha.eval hc) (h a w ha hi)
theorem lZ {c : Operand} {x y : Code} (hc : aq E c = some (.bool false)) (h : Wp C y Q E L) : Wp C (.cond c x y) Q E L :=
  fun a w ha hi => Go.wp_cond_false (ha.eval hc) (h a w ha hi)
theorem aN {c : Operand} {x y : Code} {p : Prop} [Decidable p] (hc : aq E c = some (.bool (decide p))) (ht : p → Wp C x Q E L) (hf : ¬ p → Wp C y Q E L) : Wp C (.cond c x y) Q E L :=
  ti hc (fun e => ht (of_decide_eq_true e)) (fun e => hf (of_decide_eq_false e))
theorem Kq {c : Code} (R : Nat → Env → List ad → Prop) (m : Nat) (h0 : R m E L)
    (h : ∀ m E L, R m E L → Wp C c (iI (fun E' L' => ∃ m', m' < m ∧ R m' E' L') Q) E L) : Wp C (.loop c) Q E L := by
  intro a w ha hi b k cs
  have key : ∀ n a w, (∃ E L, gl C E a ∧ Inv C.w0 L w ∧ R n E L) →
      ∃ e a' w', Qh C Q e a' w' ∧ Arrives C.P (lone (b.at a (.code c :: .inLoop c :: k)) cs w) b k cs e a' w' := by
    intro n
    induction n using Nat.strongRecOn with
    | _ n ih =>
      rintro a w ⟨E, L, ha, hi, hR⟩
      obtain ⟨e, a₁, w₁, hq, harr⟩ := h n E L hR a w ha hi b (.inLoop c :: k) cs
      cases e with
      | normal =>
        obtain ⟨E₁, L₁, ha₁, hi₁, m', hlt, hR₁⟩ := hq
        obtain ⟨e₂, a₂, w₂, hq₂, harr₂⟩ := ih m' hlt a₁ w₁ ⟨E₁, L₁, ha₁, hi₁, hR₁⟩
        exact ⟨e₂, a₂, w₂, hq₂, .of_steps (Steps.trans harr (.one step_inLoop)) harr₂⟩
      | exit id => exact ⟨_, a₁, w₁, hq, .pass (x := .inLoop c) rfl (fun _ _ => .inl (by simp)) harr⟩
      | goto l => exact ⟨_, a₁, w₁, hq, .pass (x := .inLoop c) rfl (fun _ _ => .inl (by simp)) harr⟩
      | ret => exact ⟨_, a₁, w₁, hq, .pass (x := .inLoop c) rfl (fun _ _ => .inl (by simp)) harr⟩
      | panic ch => exact ⟨_, a₁, w₁, hq, .pass (x := .inLoop c) rfl (fun _ _ => .inl (by simp)) harr⟩
      | outgrown => exact ⟨_, a₁, w₁, hq, .pass (x := .inLoop c) rfl (fun _ _ => .inl (by simp)) harr⟩
  obtain ⟨e, a', w', hq, harr⟩ := key m a w ⟨E, L, ha, hi, h0⟩
  exact ⟨e, a', w', hq, .of_steps (.one step_loop) harr⟩
end
end Go.Sl
namespace Go.Sl
open Go.RowKit (Below)
def dq (P : Program) (t : TypeId) : Bool := match P.underlying t with | some (.struct _) => false | some (.array _ _) => false | some _ => (match P.info? t with | some i => Nat.beq i.size 1 | none => false) | none => false
def ia (P : Program) (t : TypeId) : Option Nat := match P.underlying t with | some (.struct _) => (P.info? t).map (·.size) | some (.array _ _) => (P.info? t).map (·.size) | _ => none
def dH (P : Program) (t : TypeId) : Option (List Value) := match P.info? t with | some i => (match i.zero with | some z => cond (Nat.beq z.cells.size i.size) (some z.cells.toList) none | none => none) | none => none
def cy (P : Program) (s f : Nat) : Option Nat := match P.underlying s with
  | some (.struct fs) => (match fs[f]? with | some fd => (match P.info? fd.type with | some i => cond (Nat.beq i.size 0) none (some fd.offset) | none => none) | none => none)
  | _ => none
def sliceB (P : Program) (t : TypeId) : Option (TypeId × Nat × Nat) := match P.underlying t with
  | some (.slice e) => (match P.info? e with | some i => some (e, i.size, i.bytes) | none => none)
  | _ => none
def jT (P : Program) (t : TypeId) : Option (Nat × TypeId × Nat) := match P.underlying t with
  | some (.array n e) => (match P.info? e with | some i => some (n, e, i.size) | none => none)
  | _ => none
def ks (P : Program) (t : TypeId) : Bool := (P.underlying t).isSome
def Ss (P : Program) (t : TypeId) (k : IntKind) : Prop := P.underlying t = some (.int k)
def aH (P : Program) (f : FuncId) : Bool := match P.funcs[f]? with | some fn => fn.body.isSome && !(fn.name == "runtime.NumGoroutine") | none => false
theorem se {P : Program} {t : TypeId} (h : dq P t = true) (w : World) : (isAgg t).run P w = .ok false w := by
  unfold dq at h
  unfold isAgg
  split at h <;> simp_all [run_underlying]
theorem run_sizeOf {P : Program} {t : TypeId} {i : TypeInfo} (h : P.info? t = some i) (w : World) : (sizeOf t).run P w = .ok i.size w := by
  simp [sizeOf, typeInfo, h]
theorem yD {P : Program} {t : TypeId} (h : dq P t = true) : ∃ i, P.info? t = some i ∧ i.size = 1 := by
  unfold dq at h
  split at h <;> try simp at h
  split at h
  · rename_i i hi; exact ⟨i, hi, Nat.eq_of_beq_eq_true h⟩
  · simp at h
theorem lY {P : Program} {t n : Nat} (h : ia P t = some n) (w : World) : (isAgg t).run P w = .ok true w ∧ (sizeOf t).run P w = .ok n w := by
  unfold ia at h
  unfold isAgg
  split at h <;> try simp at h
  all_goals
    obtain ⟨i, hi, rfl⟩ := h
    exact ⟨by simp_all [run_underlying], run_sizeOf hi w⟩
theorem kh {P : Program} {t : Nat} {zs : List Value} (h : dH P t = some zs) : ∃ i z, P.info? t = some i ∧ i.zero = some z ∧ z.cells = zs.toArray ∧ i.size = zs.length := by
  unfold dH at h
  split at h <;> try simp at h
  rename_i i hi
  split at h <;> try simp at h
  rename_i z hz
  by_cases hs : Nat.beq z.cells.size i.size = true
  · simp [hs] at h
    subst h
    exact ⟨i, z, hi, hz, by simp, by simpa using (Nat.eq_of_beq_eq_true hs).symm⟩
  · simp [hs] at h
theorem Aq {P : Program} {s f o : Nat} (h : cy P s f = some o) : ∃ fs fd i, P.underlying s = some (.struct fs) ∧ fs[f]? = some fd ∧ P.info? fd.type = some i ∧ i.size ≠ 0 ∧ fd.offset = o := by
  unfold cy at h
  split at h <;> try simp at h
  rename_i fs hfs
  split at h <;> try simp at h
  rename_i fd hfd
  split at h <;> try simp at h
  rename_i i hi
  by_cases hz : Nat.beq i.size 0 = true
  · simp [hz] at h
  · simp [hz] at h
    refine ⟨fs, fd, i, hfs, hfd, hi, ?_, h⟩
    intro e
    rw [e] at hz
    exact hz rfl
theorem jP {P : Program} {t e sz cJ : Nat} (h : sliceB P t = some (e, sz, cJ)) : P.underlying t = some (.slice e) ∧ ∃ i, P.info? e = some i ∧ i.size = sz ∧ i.bytes = cJ := by
  unfold sliceB at h
  split at h <;> try simp at h
  rename_i e' he
  split at h <;> try simp at h
  rename_i i hi
  obtain ⟨rfl, rfl, rfl⟩ := h
  exact ⟨he, i, hi, rfl, rfl⟩
theorem o9 {P : Program} {t n e sz : Nat} (h : jT P t = some (n, e, sz)) : P.underlying t = some (.array n e) ∧ ∃ i, P.info? e = some i ∧ i.size = sz := by
  unfold jT at h
  split at h <;> try simp at h
  rename_i n' e' he
  split at h <;> try simp at h
  rename_i i hi
  obtain ⟨rfl, rfl, rfl⟩ := h
  exact ⟨he, i, hi, rfl⟩
theorem fU {a b : Nat} (h : Nat.blt a b = true) : a < b := Nat.le_of_ble_eq_true h
theorem Addr.fX (b o n : Nat) : (⟨b, o, none⟩ : Addr).add n = ⟨b, o + n, none⟩ := by
  unfold Addr.add
  split
  · rename_i h; simp [h]
  · rfl
theorem gF {n : Int} (h1 : -9223372036854775808 ≤ n) (h2 : n ≤ 9223372036854775807) : IntKind.i64.wrap n = n := by rw [IntKind.wrap_i64]; omega
theorem jL {m n : Int} (h1 : 0 ≤ m) (h2 : 0 < n) (h3 : m ≤ 9223372036854775807) : IntKind.i64.wrap (m.tdiv n) = m / n := by
  rw [Int.tdiv_eq_ediv_of_nonneg h1]
  have h4 := Int.ediv_le_self n h1
  have h5 := Int.ediv_nonneg h1 (Int.le_of_lt h2)
  exact gF (by omega) (by omega)
theorem jy {m n : Int} (h1 : 0 ≤ m) : m.tmod n = m % n := Int.tmod_eq_emod_of_nonneg h1
inductive iq : List ad → ad → List ad → Prop
  | head {A : ad} {L : List ad} : iq (A :: L) A L
  | tail {A B : ad} {L F : List ad} : iq L A F → iq (B :: L) A (B :: F)
theorem iq.perm {L F : List ad} {A : ad} (h : iq L A F) : L.Perm (A :: F) := by
  induction h with
  | head => exact List.Perm.refl _
  | tail _ ih => exact (List.Perm.cons _ ih).trans (List.Perm.swap _ _ _)
inductive jV : List ad → ad → ad → List ad → Prop
  | head {A A' : ad} {L : List ad} : jV (A :: L) A A' (A' :: L)
  | tail {A A' B : ad} {L F : List ad} : jV L A A' F → jV (B :: L) A A' (B :: F)
theorem jV.perm {L L' : List ad} {A A' : ad} (h : jV L A A' L') : ∃ F, L.Perm (A :: F) ∧ (A' :: F).Perm L' := by
  induction h with
  | head => exact ⟨_, List.Perm.refl _, List.Perm.refl _⟩
  | @tail A A' B L F _ ih =>
    obtain ⟨G, h1, h2⟩ := ih
    exact ⟨B :: G, (List.Perm.cons _ h1).trans (List.Perm.swap _ _ _), (List.Perm.swap _ _ _).trans (List.Perm.cons _ h2)⟩
theorem Inv.mem {w0 w : World} {L : List ad} {A : ad} (hi : Inv w0 L w) (hm : A ∈ L) : ∃ F, Inv w0 (A :: F) w := by
  obtain ⟨X, Y, rfl⟩ := List.append_of_mem hm
  exact ⟨X ++ Y, hi.perm List.perm_middle⟩
section
variable {C : Ctx} {Q : QT} {E : Env} {L L' : List ad} {ops : Array Oper} {rest : List Oper} {d : Nat} {ty : TypeId} {pos : String} {aft : Array Edge} {op : Op} {v : Value}
theorem bK {id : Nat} {l : List Oper} (h : dM C l.toArray l Q E L) : Wp C (.region id l.toArray false) Q E L :=
  fun a w ha hi => wp_region_lit (h a w ha hi)
theorem cW (h : Q .normal E L) : dM C ops [] Q E L := fun a w ha hi => wpList_nil ⟨E, L, ha, hi, h⟩
theorem tu (hp : L.Perm L') (h : dM C ops rest Q E L') : dM C ops rest Q E L := fun a w ha hi => h a w ha (hi.perm hp)
theorem G9 {A : ad} {ι : Sort _} {K : ι → Prop} {B : ι → List ad} (hA : ∀ h, A C.w0 h → ∃ i, K i ∧ dk C.w0 (B i) h)
    (k : ∀ i, K i → dM C ops rest Q E (B i ++ L)) : dM C ops rest Q E (A :: L) := fun a w ha hi => let ⟨i, c, s⟩ := hi.vC hA; k i c a w ha s
def Gm : Op → Value → Bool
  | .move _, _ => true
  | .assign _, _ => true
  | .pick _ _ _, _ => true
  | .nilCheck _, _ => true
  | .load _ _, _ => true
  | .binOp _ _ _ _ _, .bool _ => true
  | .binOp _ _ _ _ _, .int _ _ => true
  | .unOp _ _ _, _ => true
  | .convert _ _ _, .int _ _ => true
  | .fieldAddr _ _ _, _ => true
  | .field _ _ _, _ => true
  | .indexAddr _ _ _, _ => true
  | .index _ _ _, _ => true
  | .extract _ _, _ => true
  | .slice _ _ _ _ _, .slice _ _ _ => true
  | .build _ _, _ => true
  | .call ⟨.builtin .len, _, _⟩, .int _ _ => true
  | .call ⟨.builtin .cap, _, _⟩, .int _ _ => true
  | .call ⟨.builtin .min, _, _⟩, .int _ _ => true
  | .call ⟨.builtin .max, _, _⟩, .int _ _ => true
  | _, _ => false
def cF (C : Ctx) (op : Op) (ty : TypeId) (E : Env) (L : List ad) (v : Value) (L' : List ad) : Prop :=
  ∀ (d : Option Nat) (pos : String) (aft : Array Edge) (g : Option (Nat × Bool)) a w, gl C E a → Inv C.w0 L w → ∃ w', ((execOp a.eval ⟨d, op, ty, pos, aft, g⟩).run C.P w = .ok (.value v) w' ∨ (execOp a.eval ⟨d, op, ty, pos, aft, g⟩).run C.P w = .ok .skip w' ∧ v = undef) ∧ Inv C.w0 L' w' ∧ (Gm op v = true → (execOp a.eval ⟨d, op, ty, pos, aft, g⟩).run C.P w = .ok (.value v) w)
def kO (C : Ctx) (op : Op) (ty : TypeId) (E : Env) (L : List ad) (R : Value → List ad → Prop) : Prop :=
  ∀ (d : Option Nat) (pos : String) (aft : Array Edge) (g : Option (Nat × Bool)) a w (K : Act → World → Prop) (Q : Exit → Act → World → Prop), gl C E a → Inv C.w0 L w →
    (∀ v L' w', R v L' → Inv C.w0 L' w' → K (a.put d v) w') → (⟨d, op, ty, pos, aft, g⟩ : Oper).wp C.P a w K Q
theorem cF.x (h : cF C op ty E L v L') : kO C op ty E L (fun v' M => v' = v ∧ M = L') := by
  intro d pos aft g a w K Qx ha hi hK
  obtain ⟨w', hr, hi', _⟩ := h d pos aft g a w ha hi
  unfold Oper.wp
  rcases hr with hr | ⟨hr, e⟩
  · rw [hr]; exact hK v L' w' ⟨rfl, rfl⟩ hi'
  · rw [hr]; subst e; exact hK undef L' w' ⟨rfl, rfl⟩ hi'
theorem tC (h : cF C op ty E L v L') (hd : Nat.blt d C.n = true) (k : dM C ops rest Q ((d, v) :: E) L') : dM C ops (⟨some d, op, ty, pos, aft, none⟩ :: rest) Q E L := by
  intro a w ha hi
  refine wpList_plain rfl (fun K hK => ?_)
  exact h.x _ _ _ _ a w K _ ha hi (fun v' M w' ⟨e1, e2⟩ hi' => by subst e1; subst e2; exact hK _ _ (k _ _ (ha.put (fU hd) _) hi'))
theorem aU (h : cF C op ty E L v L') (k : dM C ops rest Q E L') : dM C ops (⟨none, op, ty, pos, aft, none⟩ :: rest) Q E L := by
  intro a w ha hi
  refine wpList_plain rfl (fun K hK => ?_)
  exact h.x _ _ _ _ a w K _ ha hi (fun v' M w' ⟨e1, e2⟩ hi' => by subst e1; subst e2; exact hK _ _ (k _ _ ha hi'))
theorem pe {R : Value → List ad → Prop} (h : kO C op ty E L R) (hd : Nat.blt d C.n = true) (k : ∀ v L', R v L' → dM C ops rest Q ((d, v) :: E) L') : dM C ops (⟨some d, op, ty, pos, aft, none⟩ :: rest) Q E L := by
  intro a w ha hi
  refine wpList_plain rfl (fun K hK => ?_)
  exact h _ _ _ _ a w K _ ha hi (fun v M w' hR hi' => hK _ _ (k v M hR _ _ (ha.put (fU hd) _) hi'))
def jU (ops : Array Oper) (E : Env) (j : Nat) : Option Bool :=
  match ops[j]? with
  | some o => (match o.dst with
    | some t => (match E.get t with | some (.bool b) => some b | _ => none)
    | none => none)
  | none => none
theorem kA {a : Act} {j : Nat} {b want : Bool} {o : Oper} (ha : gl C E a) (h : jU ops E j = some b) (hg : o.guard = some (j, want)) : Region.wanted o (yielded ops a.tmps) = (b == want) := by
  unfold jU at h
  split at h <;> try simp at h
  rename_i oj hj
  split at h <;> try simp at h
  rename_i t ht
  split at h <;> try simp at h
  rename_i b' hb
  subst h
  have := ha.get t _ hb
  simp [Region.wanted, hg, yielded, hj, ht, this]
theorem ag {dst : Option Nat} {j : Nat} {want : Bool} (hg : jU ops E j = some want) (h : dM C ops (⟨dst, op, ty, pos, aft, none⟩ :: rest) Q E L) : dM C ops (⟨dst, op, ty, pos, aft, some (j, want)⟩ :: rest) Q E L := by
  intro a w ha hi
  have h1 := h a w ha hi
  have hw := kA (o := ⟨dst, op, ty, pos, aft, some (j, want)⟩) ha hg rfl
  unfold wpList at h1 ⊢
  rw [if_pos (by simp [Region.wanted])] at h1
  rw [if_pos (by rw [hw]; simp)]
  exact h1
theorem wq {j : Nat} {want b : Bool} (hg : jU ops E j = some b) (hb : (b == want) = false) (hd : Nat.blt d C.n = true) (h : dM C ops rest Q ((d, undef) :: E) L) : dM C ops (⟨some d, op, ty, pos, aft, some (j, want)⟩ :: rest) Q E L := by
  intro a w ha hi
  have hw := kA (o := ⟨some d, op, ty, pos, aft, some (j, want)⟩) ha hg rfl
  unfold wpList
  rw [if_neg (by rw [hw, hb]; simp)]
  exact h _ _ (ha.put (fU hd) _) hi
theorem yq {b : Bool} (t : Nat) (ht : E.get t = some (.bool b)) (hT : b = true → dM C ops rest Q ((t, .bool true) :: E) L) (hF : b = false → dM C ops rest Q ((t, .bool false) :: E) L) : dM C ops rest Q E L := by
  have key : ∀ c : Bool, b = c → Le ((t, .bool c) :: E) E := fun c e => by subst e; exact Le.cons ht (Le.refl _)
  intro a w ha hi
  cases b with
  | true => exact hT rfl a w (ha.le (key _ rfl)) hi
  | false => exact hF rfl a w (ha.le (key _ rfl)) hi
theorem ld {p : Prop} [Decidable p] (t : Nat) (ht : E.get t = some (.bool (decide p))) (hT : p → dM C ops rest Q ((t, .bool true) :: E) L) (hF : ¬ p → dM C ops rest Q ((t, .bool false) :: E) L) : dM C ops rest Q E L :=
  yq t ht (fun e => hT (of_decide_eq_true e)) (fun e => hF (of_decide_eq_false e))
theorem dS (hr : ∀ (d : Option Nat) (pos : String) (aft : Array Edge) (g : Option (Nat × Bool)) a w, gl C E a → (execOp a.eval ⟨d, op, ty, pos, aft, g⟩).run C.P w = .ok (.value v) w) : cF C op ty E L v L :=
  fun d pos aft g a w ha hi => ⟨w, .inl (hr d pos aft g a w ha), hi, fun _ => hr d pos aft g a w ha⟩
theorem aK {x : Operand} (h : aq E x = some v) : cF C (.move x) ty E L v L := dS fun d pos aft g a w ha => by simp [execOp, ha.eval h]
theorem eZ {x : Operand} (h : aq E x = some v) : cF C (.assign x) ty E L v L := dS fun d pos aft g a w ha => by simp [execOp, ha.eval h]
theorem ow {c x y : Operand} (hc : aq E c = some (.bool true)) (h : aq E x = some v) : cF C (.pick c x y) ty E L v L := dS fun d pos aft g a w ha => by simp [execOp, ha.eval h, ha.eval hc, asBool]
theorem ur {c x y : Operand} (hc : aq E c = some (.bool false)) (h : aq E y = some v) : cF C (.pick c x y) ty E L v L := dS fun d pos aft g a w ha => by simp [execOp, ha.eval h, ha.eval hc, asBool]
theorem Az {x : Operand} {p : Addr} (h : aq E x = some (.pointer (some p))) : cF C (.nilCheck x) ty E L (.pointer (some p)) L := dS fun d pos aft g a w ha => by simp [execOp, ha.eval h]
theorem mL {x : Operand} {t : TypeId} {b : Bool} (h : aq E x = some (.bool b)) : cF C (.unOp .not t x) ty E L (.bool (!b)) L := dS fun d pos aft g a w ha => by simp [execOp, ha.eval h, Op.unary]
theorem BS {x : Operand} {t : TypeId} {p : Prop} [Decidable p] (h : aq E x = some (.bool (decide p))) : cF C (.unOp .not t x) ty E L (.bool (decide (¬ p))) L := dS fun d pos aft g a w ha => by simp [execOp, ha.eval h, Op.unary]
theorem fz {x : Operand} {vs : Array Value} {i : Nat} (h : aq E x = some (.tuple vs)) (hv : vs[i]? = some v) : cF C (.extract x i) ty E L v L := dS fun d pos aft g a w ha => by simp [execOp, ha.eval h, Instr.extract, hv]
section ints
variable {x y : Operand} {t t' : TypeId} {k : IntKind} {m n r : Int}
theorem jx {o : BinOp} {t' : TypeId} (d : Option Nat) (pos : String) (aft : Array Edge) (g : Option (Nat × Bool)) {a : Act} {w : World} {u1 u2 : Value} (hx : a.eval x = u1) (hy : a.eval y = u2) (hg : (eqGuard o t x y u1 u2).run C.P w = .ok () w) :
    (execOp a.eval ⟨d, .binOp o t x y t', ty, pos, aft, g⟩).run C.P w = ((binOp o t u1 u2).run C.P w).andThen fun v w => .ok (.value v) w := by
  simp [execOp, hx, hy, hg]
theorem yt {o : BinOp} (w : World) : (eqGuard o t x y (.int k m) (.int k n)).run C.P w = .ok () w := by
  unfold eqGuard
  cases o <;> simp
theorem kf {o : BinOp} (hx : aq E x = some (.int k m)) (hy : aq E y = some (.int k n)) (hr : ∀ w, (binOp o t (.int k m) (.int k n)).run C.P w = .ok v w) : cF C (.binOp o t x y t') ty E L v L :=
  dS fun d pos aft g a w ha => by rw [jx d pos aft g (ha.eval hx) (ha.eval hy) (yt w), hr]; rfl
theorem du (hx : aq E x = some (.int k m)) (hy : aq E y = some (.int k n)) (e : k.wrap (m + n) = r) : cF C (.binOp .add t x y t') ty E L (.int k r) L := kf hx hy fun w => by simp [binOp, Op.intArith, e]
theorem fT (hx : aq E x = some (.int k m)) (hy : aq E y = some (.int k n)) (e : k.wrap (m - n) = r) : cF C (.binOp .sub t x y t') ty E L (.int k r) L := kf hx hy fun w => by simp [binOp, Op.intArith, e]
theorem jv (hx : aq E x = some (.int k m)) (hy : aq E y = some (.int k n)) (e : k.wrap (m * n) = r) : cF C (.binOp .mul t x y t') ty E L (.int k r) L := kf hx hy fun w => by simp [binOp, Op.intArith, e]
theorem fY (hx : aq E x = some (.int k m)) (hy : aq E y = some (.int k n)) (h0 : n ≠ 0) (e : k.wrap (m.tdiv n) = r) : cF C (.binOp .quo t x y t') ty E L (.int k r) L := kf hx hy fun w => by simp [binOp, Op.intDiv, h0, e]
theorem gV (hx : aq E x = some (.int k m)) (hy : aq E y = some (.int k n)) (h0 : n ≠ 0) (e : m.tmod n = r) : cF C (.binOp .rem t x y t') ty E L (.int k r) L := kf hx hy fun w => by simp [binOp, Op.intDiv, h0, e]
theorem kg (hx : aq E x = some (.int k m)) (hy : aq E y = some (.int k n)) (e : k.wrap ((BitVec.ofInt k.bits m &&& BitVec.ofInt k.bits n).toNat : Int) = r) : cF C (.binOp .and t x y t') ty E L (.int k r) L := kf hx hy fun w => by rw [← e]; simp [binOp, Op.intBits]
theorem nq (hx : aq E x = some (.int k m)) (hy : aq E y = some (.int k n)) (e : k.wrap ((BitVec.ofInt k.bits m ||| BitVec.ofInt k.bits n).toNat : Int) = r) : cF C (.binOp .or t x y t') ty E L (.int k r) L := kf hx hy fun w => by rw [← e]; simp [binOp, Op.intBits]
theorem pn (hx : aq E x = some (.int k m)) (hy : aq E y = some (.int k n)) (e : k.wrap ((BitVec.ofInt k.bits m ^^^ BitVec.ofInt k.bits n).toNat : Int) = r) : cF C (.binOp .xor t x y t') ty E L (.int k r) L := kf hx hy fun w => by rw [← e]; simp [binOp, Op.intBits]
theorem gb {k' : IntKind} (hx : aq E x = some (.int k m)) (hy : aq E y = some (.int k' n)) (h0 : 0 ≤ n) (e : k.wrap (m * 2 ^ (min n.toNat k.bits)) = r) : cF C (.binOp .shl t x y t') ty E L (.int k r) L :=
  dS fun d pos aft g a w ha => by
    rw [jx d pos aft g (ha.eval hx) (ha.eval hy) (by simp [eqGuard])]
    simp [binOp, Op.shift, Int.not_lt.2 h0, ← e]
theorem ed {k' : IntKind} (hx : aq E x = some (.int k m)) (hy : aq E y = some (.int k' n)) (h0 : 0 ≤ n) (e : m.fdiv (2 ^ (min n.toNat k.bits)) = r) : cF C (.binOp .shr t x y t') ty E L (.int k r) L :=
  dS fun d pos aft g a w ha => by
    rw [jx d pos aft g (ha.eval hx) (ha.eval hy) (by simp [eqGuard])]
    simp [binOp, Op.shift, Int.not_lt.2 h0, ← e]
theorem bu (hx : aq E x = some (.int k m)) (hy : aq E y = some (.int k n)) : cF C (.binOp .lss t x y t') ty E L (.bool (decide (m < n))) L := kf hx hy fun w => by simp [binOp, Op.intCmp]
theorem eH (hx : aq E x = some (.int k m)) (hy : aq E y = some (.int k n)) : cF C (.binOp .leq t x y t') ty E L (.bool (decide (m ≤ n))) L := kf hx hy fun w => by simp [binOp, Op.intCmp]
theorem bd (hx : aq E x = some (.int k m)) (hy : aq E y = some (.int k n)) : cF C (.binOp .gtr t x y t') ty E L (.bool (decide (n < m))) L := kf hx hy fun w => by simp [binOp, Op.intCmp]
theorem ft (hx : aq E x = some (.int k m)) (hy : aq E y = some (.int k n)) : cF C (.binOp .geq t x y t') ty E L (.bool (decide (n ≤ m))) L := kf hx hy fun w => by simp [binOp, Op.intCmp]
theorem az (hx : aq E x = some (.int k m)) (hy : aq E y = some (.int k n)) : cF C (.binOp .eql t x y t') ty E L (.bool (decide (m = n))) L := kf hx hy fun w => by
  simp [binOp, Op.intCmp]; rw [Bool.eq_iff_iff]; simp
theorem cx (hx : aq E x = some (.int k m)) (hy : aq E y = some (.int k n)) : cF C (.binOp .neq t x y t') ty E L (.bool (decide (m ≠ n))) L := kf hx hy fun w => by
  simp [binOp, Op.intCmp]; rw [Bool.eq_iff_iff]; simp
theorem bg {src dst : TypeId} {k' : IntKind} (hs : ks C.P src = true) (hd : C.P.underlying dst = some (.int k')) (hx : aq E x = some (.int k m)) (e : k'.wrap m = r) : cF C (.convert src dst x) ty E L (.int k' r) L :=
  dS fun d pos aft g a w ha => by
    simp only [execOp, ha.eval hx]
    have := run_convert_int (P := C.P) (w := w) src dst k m
    unfold ks at hs
    obtain ⟨ds, hds⟩ := Option.isSome_iff_exists.1 hs
    simp [convert, run_underlying hds, run_underlying hd, Conv.intToInt, e]
end ints
theorem run_equal_bool {t : TypeId} {b c : Bool} (ht : C.P.underlying t = some .bool) (d : Nat) (w : World) : (Op.equalIn (d + 1) t (.bool b) (.bool c)).run C.P w = .ok (b == c) w := by
  simp [Op.equalIn, run_underlying ht]
theorem pK {t e : TypeId} {p : Option Addr} (ht : C.P.underlying t = some (.pointer e)) (d : Nat) (w : World) : (Op.equalIn (d + 1) t (.pointer p) (.pointer none)).run C.P w = .ok p.isNone w := by
  cases p <;> simp [Op.equalIn, run_underlying ht]
theorem G0 {x y : Operand} {t t' : TypeId} {b c : Bool} (ht : C.P.underlying t = some .bool) (hx : aq E x = some (.bool b)) (hy : aq E y = some (.bool c)) : cF C (.binOp .eql t x y t') ty E L (.bool (b == c)) L :=
  dS fun d pos aft g a w ha => by
    rw [jx d pos aft g (ha.eval hx) (ha.eval hy) (by simp [eqGuard])]
    have h := run_equal_bool ht (b := b) (c := c) 9999 w
    simp only [binOp, Op.equal, Op.maxDepth, Sem.run_bind, h, Result.andThen_ok, Sem.run_pure]
theorem iU {x y : Operand} {t t' e : TypeId} {p : Option Addr} (ht : C.P.underlying t = some (.pointer e)) (hx : aq E x = some (.pointer p)) (hy : aq E y = some (.pointer none)) : cF C (.binOp .eql t x y t') ty E L (.bool p.isNone) L :=
  dS fun d pos aft g a w ha => by
    rw [jx d pos aft g (ha.eval hx) (ha.eval hy) (by simp [eqGuard])]
    have h := pK ht (p := p) 9999 w
    simp only [binOp, Op.equal, Op.maxDepth, Sem.run_bind, h, Result.andThen_ok, Sem.run_pure]
theorem zR {x y : Operand} {t t' e : TypeId} {p : Option Addr} (ht : C.P.underlying t = some (.pointer e)) (hx : aq E x = some (.pointer p)) (hy : aq E y = some (.pointer none)) : cF C (.binOp .neq t x y t') ty E L (.bool (!p.isNone)) L :=
  dS fun d pos aft g a w ha => by
    rw [jx d pos aft g (ha.eval hx) (ha.eval hy) (by simp [eqGuard])]
    have h := pK ht (p := p) 9999 w
    simp only [binOp, Op.equal, Op.maxDepth, Sem.run_bind, h, Result.andThen_ok, Sem.run_pure]
theorem aE {x : Operand} {s f o b p : Nat} (ht : cy C.P s f = some o) (h : aq E x = some (.pointer (some ⟨b, p, none⟩))) : cF C (.fieldAddr s x f) ty E L (.pointer (some ⟨b, p + o, none⟩)) L :=
  dS fun d pos aft g a w ha => by
    obtain ⟨fs, fd, i, h1, h2, h3, h4, rfl⟩ := Aq ht
    simp [execOp, ha.eval h, Instr.fieldAt, run_underlying h1, h2, Instr.sureAddr, fieldPlace, run_sizeOf h3, h4, Addr.fX]
theorem Jm {x ix : Operand} {t e sz cJ b p len cap : Nat} {k : IntKind} {i : Int} (j : Nat) (hj : i = (j : Int)) (ht : sliceB C.P t = some (e, sz, cJ)) (h : aq E x = some (.slice (some ⟨b, p, none⟩) len cap)) (hi : aq E ix = some (.int k i)) (hlt : j < len) : cF C (.indexAddr t x ix) ty E L (.pointer (some ⟨b, p + j * sz, none⟩)) L :=
  dS fun d pos aft g a w ha => by
    obtain ⟨h1, i', h2, h3, h4⟩ := jP ht
    subst hj
    have : (j : Int) < (len : Int) := by omega
    simp [execOp, ha.eval h, ha.eval hi, Instr.indexAt, asIntOf, run_underlying h1, run_sizeOf h2, h3, hlt, Addr.fX]
theorem im {x ix : Operand} {t e sz n b p : Nat} {k : IntKind} {i : Int} (j : Nat) (hj : i = (j : Int)) (ht : jT C.P t = some (n, e, sz)) (h : aq E x = some (.pointer (some ⟨b, p, none⟩))) (hi : aq E ix = some (.int k i)) (hlt : j < n) : cF C (.indexAddr t x ix) ty E L (.pointer (some ⟨b, p + j * sz, none⟩)) L :=
  dS fun d pos aft g a w ha => by
    obtain ⟨h1, i', h2, h3⟩ := o9 ht
    subst hj
    simp [execOp, ha.eval h, ha.eval hi, Instr.indexAt, asIntOf, run_underlying h1, run_sizeOf h2, h3, hlt, Addr.fX, Instr.sureAddr]
theorem vA {t : TypeId} {p : Addr} {w : World} (hs : dq C.P t = true) (h : w.cell? p = some v) : (loadVar t p).run C.P w = .ok v w := by
  simp [loadVar, se hs, h]
theorem yT {x : Operand} {t : TypeId} {p : Addr} (hs : dq C.P t = true) (hx : aq E x = some (.pointer (some p))) (hw : ∀ w, Inv C.w0 L w → w.cell? p = some v) : cF C (.load t x) ty E L v L :=
  fun d pos aft g a w ha hi => ⟨w, .inl (by simp [execOp, ha.eval hx, Instr.loadAt, Instr.sureAddr, vA hs (hw w hi)]), hi, fun _ => by simp [execOp, ha.eval hx, Instr.loadAt, Instr.sureAddr, vA hs (hw w hi)]⟩
theorem ae {x : Operand} {t b o T : Nat} {cs : List Value} (hs : dq C.P t = true) (hx : aq E x = some (.pointer (some ⟨b, o, none⟩))) (hm : ao b T cs ∈ L) (hv : cs[o]? = some v) : cF C (.load t x) ty E L v L :=
  yT hs hx fun w hi => by obtain ⟨F, hF⟩ := hi.mem hm; rw [hF.ji, hv]
theorem tt {x : Operand} {t n b o : Nat} {vs : List Value} (hs : ia C.P t = some n) (hx : aq E x = some (.pointer (some ⟨b, o, none⟩))) (hn : vs.length = n) (hw : ∀ w, Inv C.w0 L w → ∀ j v, vs[j]? = some v → w.cell? ⟨b, o + j, none⟩ = some v) : cF C (.load t x) ty E L (.agg vs.toArray) L :=
  fun d pos aft g a w ha hi => by
    have hr : (execOp a.eval ⟨d, .load t x, ty, pos, aft, g⟩).run C.P w = .ok (.value (.agg vs.toArray)) w := by
      obtain ⟨h1, h2⟩ := lY hs w
      have := run_loadCells_list (P := C.P) w ⟨b, o, none⟩ vs (fun j v hj => by rw [Addr.fX]; exact hw w hi j v hj)
      rw [hn] at this
      simp [execOp, ha.eval hx, Instr.loadAt, Instr.sureAddr, loadVar, h1, h2, this]
    exact ⟨w, .inl hr, hi, fun _ => hr⟩
theorem bG {x : Operand} {t n b o T : Nat} {cs vs : List Value} (hs : ia C.P t = some n) (hx : aq E x = some (.pointer (some ⟨b, o, none⟩))) (hm : ao b T cs ∈ L) (hn : vs.length = n) (hv : (cs.drop o).take n = vs) : cF C (.load t x) ty E L (.agg vs.toArray) L :=
  tt hs hx hn fun w hi j v hj => by
    obtain ⟨F, hF⟩ := hi.mem hm
    rw [hF.ji, ← hj, ← hv]
    have : j < n := by
      have := (List.getElem?_eq_some_iff.1 hj).1
      omega
    simp [List.getElem?_take, this, List.getElem?_drop]
theorem bZ {x y : Operand} {t b o T : Nat} {cs cs' : List Value} {u : Value} (hs : dq C.P t = true) (hx : aq E x = some (.pointer (some ⟨b, o, none⟩))) (hy : aq E y = some u) (h1 : u.oneCell' = true)
    (hr : jV L (ao b T cs) (ao b T cs') L') (ho : o < cs.length) (hc : cs.set o u = cs') : cF C (.store t x y) ty E L undef L' := by
  intro d pos aft g a w ha hi
  obtain ⟨F, p1, p2⟩ := hr.perm
  have hi1 := hi.perm p1
  have hcell : w.cell? ⟨b, o, none⟩ = some cs[o] := by rw [hi1.ji]; simp [ho]
  have hfr := hi1.tg o ho
  have hcs : u.cells = #[u] := by cases u <;> first | rfl | (simp [Value.oneCell'] at h1)
  obtain ⟨i, hinfo, hsz⟩ := yD hs
  refine ⟨w.setCell ⟨b, o, none⟩ u, .inr ⟨?_, rfl⟩, ?_, fun h => by cases h⟩
  · have hst := run_store C.P w ⟨b, o, none⟩ u .plain h1
    simp [hcell, hfr] at hst
    simp [execOp, ha.eval hx, ha.eval hy, Instr.storeAt, Instr.sureAddr, storeVar, hcs, run_sizeOf hinfo, hsz, storeCells, Addr.fX, hst]
  · rw [← hc] at p2
    exact (hi1.setCell o u).perm p2
theorem uV {t : TypeId} {zs : List Value} (hz : dH C.P t = some zs) : kO C (.alloc t) ty E L (fun v L' => ∃ b, v = .pointer (some ⟨b, 0, none⟩) ∧ L' = ao b t zs :: L) := by
  intro d pos aft g a w K Qx ha hi hK
  obtain ⟨i, z, h1, h2, h3, h4⟩ := kh hz
  have hr : (execOp a.eval ⟨d, .alloc t, ty, pos, aft, g⟩).run C.P w = .ok (.value (.pointer (some ⟨w.heap.size, 0, none⟩))) (w.alloc (.cells zs.toArray t)) := by
    simp [execOp, Instr.alloc, zeroValue, typeInfo, h1, h2, newVar, newRow, h3]
  unfold Oper.wp
  rw [hr]
  exact hK _ _ _ ⟨_, rfl, rfl⟩ (hi.alloc t zs)
theorem N2 {t : TypeId} {x : Operand} {u : Value} (hx : aq E x = some u) : kO C (.box t x) ty E L (fun v L' => ∃ b, v = .pointer (some ⟨b, 0, none⟩) ∧ L' = ao b t u.cells.toList :: L) := by
  intro d pos aft g a w K Qx ha hi hK
  have hr : (execOp a.eval ⟨d, .box t x, ty, pos, aft, g⟩).run C.P w = .ok (.value (.pointer (some ⟨w.heap.size, 0, none⟩))) (w.alloc (.cells u.cells.toList.toArray t)) := by
    simp [execOp, ha.eval hx, Instr.box, newVar, newRow]
  unfold Oper.wp
  rw [hr]
  exact hK _ _ _ ⟨_, rfl, rfl⟩ (hi.alloc t _)
theorem cC {t : TypeId} {zs : List Value} (hz : dH C.P t = some zs) (hd : Nat.blt d C.n = true) (k : ∀ b, dM C ops rest Q ((d, .pointer (some ⟨b, 0, none⟩)) :: E) (ao b t zs :: L)) : dM C ops (⟨some d, .alloc t, ty, pos, aft, none⟩ :: rest) Q E L :=
  pe (uV hz) hd fun v L' ⟨b, e1, e2⟩ => by subst e1; subst e2; exact k b
theorem eN {t : TypeId} {x : Operand} {u : Value} {cs : List Value} (hx : aq E x = some u) (hc : u.cells.toList = cs) (hd : Nat.blt d C.n = true) (k : ∀ b, dM C ops rest Q ((d, .pointer (some ⟨b, 0, none⟩)) :: E) (ao b t cs :: L)) : dM C ops (⟨some d, .box t x, ty, pos, aft, none⟩ :: rest) Q E L :=
  pe (N2 hx) hd fun v L' ⟨b, e1, e2⟩ => by subst e1; subst e2; subst hc; exact k b
theorem jA {w0 : World} {b T : Nat} : ∀ (us : List Value) (o i : Nat) (cs : List Value) (F : List ad) (w : World), (∀ u ∈ us, u.oneCell' = true) → o + i + us.length ≤ cs.length → Inv w0 (ao b T cs :: F) w →
    ∃ w', (storeCells ⟨b, o, none⟩ us i).run C.P w = .ok () w' ∧ Inv w0 (ao b T (cs.take (o + i) ++ us ++ cs.drop (o + i + us.length)) :: F) w'
  | [], o, i, cs, F, w, _, h, hi => ⟨w, rfl, by simpa using hi⟩
  | u :: us, o, i, cs, F, w, h1, h, hi => by
    simp only [List.length_cons] at h
    have hlt : o + i < cs.length := by omega
    have hcell : w.cell? ⟨b, o + i, none⟩ = some cs[o + i] := by rw [hi.ji]; simp [hlt]
    have hfr := hi.tg (o + i) hlt
    have hst := run_store C.P w ⟨b, o + i, none⟩ u .plain (h1 u (by simp))
    simp [hcell, hfr] at hst
    obtain ⟨w', hr, hi'⟩ := jA us o (i + 1) (cs.set (o + i) u) F _ (fun x hx => h1 x (by simp [hx])) (by simp; omega) (hi.setCell (o + i) u)
    refine ⟨w', by simp [storeCells, Addr.fX, hst, hr], ?_⟩
    have e : (cs.set (o + i) u).take (o + (i + 1)) ++ us ++ (cs.set (o + i) u).drop (o + (i + 1) + us.length) = cs.take (o + i) ++ (u :: us) ++ cs.drop (o + i + (u :: us).length) := by
      have e1 : (cs.set (o + i) u).take (o + (i + 1)) = cs.take (o + i) ++ [u] := by
        apply List.ext_getElem?
        intro j
        simp only [List.getElem?_take, List.getElem?_set, List.getElem?_append, List.length_take]
        by_cases hj : j < o + i
        · have : j < o + (i + 1) := by omega
          have h3 : ¬ (o + i = j) := by omega
          have h4 : j < min (o + i) cs.length := by omega
          simp [hj, this, h3, h4]
        · by_cases hj2 : j = o + i
          · subst hj2
            have : o + i < o + (i + 1) := by omega
            have h4 : ¬ (o + i < min (o + i) cs.length) := by omega
            have h5 : o + i - min (o + i) cs.length = 0 := by omega
            simp [this, hlt, h4, h5]
          · have : ¬ j < o + (i + 1) := by omega
            have h4 : ¬ (j < min (o + i) cs.length) := by omega
            have h5 : ¬ (j - min (o + i) cs.length = 0) := by omega
            simp [this, h4, List.getElem?_cons, h5]
      have e2 : (cs.set (o + i) u).drop (o + (i + 1) + us.length) = cs.drop (o + i + (u :: us).length) := by
        rw [List.drop_set_of_lt (by omega)]
        congr 1
        simp; omega
      rw [e1, e2]
      simp
    rw [← e]
    exact hi'
theorem aF {x y : Operand} {t b o T n : Nat} {cs cs' us : List Value} (hs : ia C.P t = some n) (hx : aq E x = some (.pointer (some ⟨b, o, none⟩))) (hy : aq E y = some (.agg us.toArray)) (h1 : us.all Value.oneCell' = true) (hn : us.length = n)
    (hr : jV L (ao b T cs) (ao b T cs') L') (ho : o + n ≤ cs.length) (hc : cs.take o ++ us ++ cs.drop (o + n) = cs') : cF C (.store t x y) ty E L undef L' := by
  intro d pos aft g a w ha hi
  obtain ⟨F, p1, p2⟩ := hr.perm
  have hi1 := hi.perm p1
  obtain ⟨h2, h3⟩ := lY hs w
  obtain ⟨w', hst, hi'⟩ := jA (C := C) us o 0 cs F w (fun u hu => by simpa using List.all_eq_true.1 h1 u hu) (by omega) hi1
  refine ⟨w', .inr ⟨?_, rfl⟩, ?_, fun h => by cases h⟩
  · simp [execOp, ha.eval hx, ha.eval hy, Instr.storeAt, Instr.sureAddr, storeVar, Value.cells, h3, hn, hst]
  · simp only [Nat.add_zero, hn, hc] at hi'
    exact hi'.perm p2
end
end Go.Sl
namespace Go.Sl
open Go.RowKit (Below)
def aG (P : Program) (f : FuncId) (args : List Value) (Pre : List ad) (Post : Ending → List ad → Prop) : Prop :=
  ∀ w0 F w, Inv w0 (Pre ++ F) w → Calls P f args.toArray w fun e w' => ∃ G, Inv w0 (G ++ F) w' ∧ Post e G
def aQ (R : Value → List ad → Prop) : Ending → List ad → Prop := fun e G => ∃ v, e = .returned v ∧ R v G
theorem aG.mono {P : Program} {f : FuncId} {args : List Value} {Pre : List ad} {Post Post' : Ending → List ad → Prop} (h : aG P f args Pre Post) (hp : ∀ e G, Post e G → Post' e G) : aG P f args Pre Post' :=
  fun w0 F w hi => (h w0 F w hi).mono fun e w' ⟨G, h1, h2⟩ => ⟨G, h1, hp e G h2⟩
theorem aG.frame {P : Program} {f : FuncId} {args : List Value} {Pre : List ad} {R : Value → List ad → Prop} (h : aG P f args Pre (aQ R)) (M : List ad) : aG P f args (Pre ++ M) (aQ fun v G => ∃ G', R v G' ∧ G = G' ++ M) :=
  fun w0 F w hi => (h w0 (M ++ F) w (by rw [← List.append_assoc]; exact hi)).mono fun e w' ⟨G, h1, v, e1, h2⟩ => ⟨G ++ M, by rw [List.append_assoc]; exact h1, v, e1, G, h2, rfl⟩
def iL (E : Env) : List Operand → Option (List Value)
  | [] => some []
  | x :: xs => match aq E x with | some v => (match iL E xs with | some vs => some (v :: vs) | none => none) | none => none
theorem gl.iL {C : Ctx} {E : Env} {a : Act} (h : gl C E a) : ∀ {xs : List Operand} {vs : List Value}, iL E xs = some vs → xs.toArray.map a.eval = vs.toArray
  | [], vs, e => by simp only [Sl.iL] at e; cases e; simp
  | x :: xs, vs, e => by
    simp only [Sl.iL] at e
    split at e <;> try simp at e
    rename_i v hv
    split at e <;> try simp at e
    rename_i us hus
    subst e
    have := gl.iL h hus
    simp at this ⊢
    exact ⟨h.eval hv, this⟩
inductive fJ : List ad → List ad → List ad → Prop
  | nil {L : List ad} : fJ L [] L
  | cons {L M F Pre : List ad} {A : ad} : iq L A M → fJ M Pre F → fJ L (A :: Pre) F
theorem fJ.perm {L Pre F : List ad} (h : fJ L Pre F) : L.Perm (Pre ++ F) := by
  induction h with
  | nil => exact List.Perm.refl _
  | cons h _ ih => exact h.perm.trans (List.Perm.cons _ ih)
theorem gS {P : Program} {f : FuncId} (hb : aH P f = true) (vs : Array Value) (w : World) : (callFunc f vs).run P w = .ok (.enter f vs) w := by
  unfold aH at hb
  split at hb <;> try simp at hb
  rename_i fn hfn
  obtain ⟨h1, h2⟩ := hb
  have h3 : fn.body ≠ none := by intro e; rw [e] at h1; cases h1
  simp [callFunc, hfn, h2, h3]
section
variable {C : Ctx} {Q : QT} {E : Env} {L L' : List ad} {ops : Array Oper} {rest : List Oper} {d : Nat} {ty : TypeId} {pos : String} {aft : Array Edge} {op : Op} {v : Value}
theorem DQ {f : FuncId} {args : List Operand} {tys : Array TypeId} {vs : List Value} {Pre F : List ad} {R : Value → List ad → Prop} (hS : aG C.P f vs Pre (aQ R)) (hb : aH C.P f = true) (hE : iL E args = some vs) (hL : fJ L Pre F) :
    kO C (.call ⟨.value (.func f), args.toArray, tys⟩) ty E L (fun v L' => ∃ G, R v G ∧ L' = G ++ F) := by
  intro d pos aft g a w K Qx ha hi hK
  have hargs := ha.iL hE
  have hr : (execOp a.eval ⟨d, .call ⟨.value (.func f), args.toArray, tys⟩, ty, pos, aft, g⟩).run C.P w = .ok (.enter f vs.toArray) w := by
    simp only [execOp, resolve, hargs, Deferred.ofValue, Act.eval, invoke, Sem.run_bind, Sem.run_pure, Result.andThen_ok, Array.append_empty, Array.empty_append, gS hb]
  unfold Oper.wp
  rw [hr]
  refine (hS C.w0 F w (hi.perm hL.perm)).mono ?_
  rintro e w' ⟨G, h1, v, rfl, h2⟩
  exact hK v (G ++ F) w' ⟨G, h2, rfl⟩ h1
theorem ai {f : FuncId} {args : List Operand} {tys : Array TypeId} {vs : List Value} {Pre F : List ad} {R : Value → List ad → Prop} (hS : aG C.P f vs Pre (aQ R)) (hb : aH C.P f = true) (hE : iL E args = some vs) (hL : fJ L Pre F) (hd : Nat.blt d C.n = true)
    (k : ∀ v G, R v G → dM C ops rest Q ((d, v) :: E) (G ++ F)) : dM C ops (⟨some d, .call ⟨.value (.func f), args.toArray, tys⟩, ty, pos, aft, none⟩ :: rest) Q E L :=
  pe (DQ hS hb hE hL) hd fun v L' ⟨G, h1, e⟩ => by subst e; exact k v G h1
theorem Ie {f : FuncId} {t : Nat} {args : List Operand} {tys : Array TypeId} {vs fs cs : List Value} {Pre F : List ad} {R : Value → List ad → Prop} (hS : aG C.P f (fs ++ vs ++ cs) Pre (aQ R)) (hb : aH C.P f = true) (ht : E.get t = some (.func (.func f) fs.toArray cs.toArray)) (hE : iL E args = some vs) (hL : fJ L Pre F) (hd : Nat.blt d C.n = true)
    (k : ∀ v G, R v G → dM C ops rest Q ((d, v) :: E) (G ++ F)) : dM C ops (⟨some d, .call ⟨.value (.tmp t), args.toArray, tys⟩, ty, pos, aft, none⟩ :: rest) Q E L := by
  intro a w ha hi
  refine wpList_plain rfl (fun K hK => ?_)
  have hargs := ha.iL hE
  have hev := ha.eval (x := .tmp t) ht
  have hr : (execOp a.eval ⟨some d, .call ⟨.value (.tmp t), args.toArray, tys⟩, ty, pos, aft, none⟩).run C.P w = .ok (.enter f (fs ++ vs ++ cs).toArray) w := by
    simp only [execOp, resolve, hargs, hev, Deferred.ofValue, invoke, Sem.run_bind, Sem.run_pure, Result.andThen_ok, gS hb]
    simp
  unfold Oper.wp
  rw [hr]
  refine (hS C.w0 F w (hi.perm hL.perm)).mono ?_
  rintro e w' ⟨G, h1, v, rfl, h2⟩
  exact hK _ _ (k v G h2 _ _ (ha.put (fU hd) _) h1)
inductive Drop : List ad → List ad → Prop
  | refl {L : List ad} : Drop L L
  | skip {A : ad} {L F : List ad} : Drop L F → Drop (A :: L) F
  | keep {A : ad} {L F : List ad} : Drop L F → Drop (A :: L) (A :: F)
theorem Drop.inv {w0 w : World} {L F : List ad} (h : Drop L F) : ∀ {M : List ad}, Inv w0 (M ++ L) w → Inv w0 (M ++ F) w := by
  induction h with
  | refl => exact fun h => h
  | @skip A L F _ ih => exact fun {M} h => ih ((h.perm List.perm_middle).tail)
  | @keep A L F _ ih =>
    intro M h
    have := ih (M := M ++ [A]) (by simpa using h)
    simpa using this
def Sub (L M : List ad) : Prop := ∀ (w0 w : World), Inv w0 L w → Inv w0 M w
theorem sub {L G M F : List ad} (h : fJ L G M) (d : Drop M F) : Sub L (G ++ F) := fun _ _ hi => d.inv (hi.perm h.perm)
theorem Sub.trans {L M N : List ad} (h : Sub L M) (k : Sub M N) : Sub L N := fun w0 w hi => k w0 w (h w0 w hi)
theorem fold {A : ad} {B F : List ad} (hA : ∀ w0 h, dk w0 B h → A w0 h) : Sub (B ++ F) (A :: F) := fun w0 w hi => hi.cls (fun h s => hA w0 h s)
def lu (C : Ctx) (rs : Array ResultVar) (E : Env) (L : List ad) (v : Value) : Prop := ∀ fn a w, fn.results = rs → gl C E a → Inv C.w0 L w → (results fn a.tmps).run C.P w = .ok v w
theorem fI : lu C #[] E L (.tuple #[]) := fun fn a w hr ha hi => by simp [results, hr]
theorem aC {t : Nat} (h : E.get t = some v) : lu C #[.tmp t] E L v := fun fn a w hr ha hi => by simp [results, hr, ha.get _ _ h]
theorem fD {t u : Nat} {v1 v2 : Value} (h1 : E.get t = some v1) (h2 : E.get u = some v2) : lu C #[.tmp t, .tmp u] E L (.tuple #[v1, v2]) := fun fn a w hr ha hi => by simp [results, hr, ha.get _ _ h1, ha.get _ _ h2]
theorem K0 {t u x : Nat} {v1 v2 v3 : Value} (h1 : E.get t = some v1) (h2 : E.get u = some v2) (h3 : E.get x = some v3) : lu C #[.tmp t, .tmp u, .tmp x] E L (.tuple #[v1, v2, v3]) := fun fn a w hr ha hi => by simp [results, hr, ha.get _ _ h1, ha.get _ _ h2, ha.get _ _ h3]
def oH (C : Ctx) (rs : Array ResultVar) (F : List ad) (Post : Ending → List ad → Prop) : QT := fun e E L => match e with
  | .normal => ∃ v G, lu C rs E L v ∧ Post (.returned v) G ∧ Sub L (G ++ F)
  | .ret => ∃ v G, lu C rs E L v ∧ Post (.returned v) G ∧ Sub L (G ++ F)
  | .panic ch => ∃ G, Post (.panicked ch) G ∧ Sub L (G ++ F)
  | _ => False
theorem ak {rs : Array ResultVar} {F G : List ad} {R : Value → List ad → Prop} (hr : lu C rs E L v) (hR : R v G) (hs : Sub L (G ++ F)) : oH C rs F (aQ R) .ret E L := ⟨v, G, hr, ⟨v, rfl, hR⟩, hs⟩
theorem jb {rs : Array ResultVar} {F G : List ad} {R : Value → List ad → Prop} (hr : lu C rs E L v) (hR : R v G) (hs : Sub L (G ++ F)) : oH C rs F (aQ R) .normal E L := ⟨v, G, hr, ⟨v, rfl, hR⟩, hs⟩
def wF : Nat → List Value → Env
  | _, [] => []
  | i, v :: vs => (i, v) :: wF (i + 1) vs
theorem si : ∀ (i : Nat) (vs : List Value) (d : Nat) (u : Value), (wF i vs).get d = some u → i ≤ d ∧ vs[d - i]? = some u
  | i, [], d, u, h => by cases h
  | i, v :: vs, d, u, h => by
    rw [wF, Env.jl] at h
    by_cases e : i = d
    · subst e; simp at h; simp [h]
    · simp only [e, if_false] at h
      obtain ⟨h1, h2⟩ := si (i + 1) vs d u h
      refine ⟨by omega, ?_⟩
      rw [show d - i = d - (i + 1) + 1 by omega]
      simpa using h2
theorem av {P : Program} {f : FuncId} {fn : Func} {c : Code} {args : List Value} {Pre : List ad} {Post : Ending → List ad → Prop} {n : Nat} (E : Env) (hf : P.funcs[f]? = some fn) (hb : fn.body = some c) (hn : fn.ntmps = n) (hE : wF 0 args = E) (hl : Nat.ble args.length n = true)
    (h : ∀ w0 F, Wp ⟨P, w0, n, [], fun ch L => ∃ G, Post (.panicked ch) G ∧ Sub L (G ++ F)⟩ c (oH ⟨P, w0, n, [], fun ch L => ∃ G, Post (.panicked ch) G ∧ Sub L (G ++ F)⟩ fn.results F Post) E (Pre ++ F)) : aG P f args Pre Post := by
  intro w0 F w hi
  have hl := Nat.le_of_ble_eq_true hl
  refine calls_of_wp hf hb (Code.wp_mono ?_ (h w0 F _ w ?_ hi))
  · rintro e a w' ⟨E', L', ha', hi', hq⟩
    cases e with
    | normal => obtain ⟨v, G, h1, h2, h3⟩ := hq; exact ⟨ha'.defers, v, h1 fn a w' rfl ha' hi', G, h3 _ _ hi', h2⟩
    | ret => obtain ⟨v, G, h1, h2, h3⟩ := hq; exact ⟨ha'.defers, v, h1 fn a w' rfl ha' hi', G, h3 _ _ hi', h2⟩
    | panic ch => obtain ⟨G, h1, h2⟩ := hq; exact ⟨ha'.defers, G, h2 _ _ hi', h1⟩
    | exit _ => exact hq
    | goto _ => exact hq
    | outgrown => exact hq.elim
  · refine ⟨rfl, ?_, ?_⟩
    · simp [hn]; omega
    · intro d v hd
      rw [← hE] at hd
      obtain ⟨_, h2⟩ := si 0 args d v hd
      have hlt := (List.getElem?_eq_some_iff.1 h2).1
      simp at h2 hlt ⊢
      rw [Array.getElem?_append_left (by simpa using hlt)]
      simpa using h2
def pq (w0 : World) (h : Hp) (a : Addr) : Option Value := match h a.block with
  | some (.cells c _ _) => if a.spot.isSome then none else c[a.off]?
  | some _ => none
  | none => if a.block < w0.heap.size then w0.cell? a else none
theorem uf {w0 w : World} {h : Hp} {a : Addr} {u : Value} (hb : Below w0.heap.size w0 w) (hh : ∀ b o, h b = some o → w0.heap.size ≤ b ∧ w.heap[b]? = some o) (e : pq w0 h a = some u) : w.cell? a = some u := by
  unfold pq at e
  split at e
  · rename_i c T fr hc
    have := (hh _ _ hc).2
    simp only [World.cell?, this]
    exact e
  · cases e
  · split at e
    · rename_i hlt; rw [hb.cell hlt]; exact e
    · cases e
def Rd (p : Option Addr) (n sz : Nat) (vs : List Value) : ad := fun w0 h => vs.length = n * sz ∧ (n = 0 ∨ ∃ b o, p = some ⟨b, o, none⟩ ∧ ∀ i v, vs[i]? = some v → pq w0 h ⟨b, o + i, none⟩ = some v)
def Sl (p : Option Addr) (n cap : Nat) (T : TypeId) (sz : Nat) (vs : List Value) : ad := fun w0 h =>
  (p = none ∧ n = 0 ∧ cap = 0 ∧ vs = []) ∨
  ∃ b o pre post, p = some ⟨b, o, none⟩ ∧ ao b T (pre ++ vs ++ post) w0 h ∧ pre.length = o ∧ vs.length = n * sz ∧ (cap - n) * sz ≤ post.length ∧ n ≤ cap
theorem Sl.rd {p : Option Addr} {n cap T sz : Nat} {vs : List Value} {w0 : World} {h : Hp} (hs : Sl p n cap T sz vs w0 h) : Rd p n sz vs w0 h := by
  rcases hs with ⟨rfl, rfl, rfl, rfl⟩ | ⟨b, o, pre, post, rfl, h1, h2, h3, h4, h5⟩
  · exact ⟨by simp, .inl rfl⟩
  · refine ⟨h3, .inr ⟨b, o, rfl, fun i v hv => ?_⟩⟩
    obtain ⟨_, h1⟩ := h1
    have hlt := (List.getElem?_eq_some_iff.1 hv).1
    simp only [pq, h1, Option.isSome_none, Bool.false_eq_true, if_false, List.getElem?_toArray]
    rw [List.append_assoc, List.getElem?_append_right (by omega), h2, show o + i - o = i by omega, List.getElem?_append_left hlt, hv]
theorem Inv.rd {w0 w : World} {L : List ad} {R : ad} {p : Option Addr} {n sz : Nat} {vs : List Value} (hi : Inv w0 L w) (hm : R ∈ L) (hR : ∀ h, R w0 h → Rd p n sz vs w0 h) :
    vs.length = n * sz ∧ (n = 0 ∨ ∃ b o, p = some ⟨b, o, none⟩ ∧ ∀ i v, vs[i]? = some v → w.cell? ⟨b, o + i, none⟩ = some v) := by
  obtain ⟨F, hb, h, a, h1, h2, d, l1, l2, hp, k⟩ := hi.mem hm
  obtain ⟨e1, e2⟩ := hR h1 hp
  refine ⟨e1, e2.imp id ?_⟩
  rintro ⟨b, o, rfl, hc⟩
  exact ⟨b, o, rfl, fun i v hv => uf hb (fun b o e => a b o (l1 b o e)) (hc i v hv)⟩
theorem Inv.wS {w0 w : World} {L : List ad} {A : ad} (hi : Inv w0 L w) (hA : A w0 (fun _ => none)) : Inv w0 (A :: L) w :=
  ⟨hi.below, let ⟨h, a, k⟩ := hi.heap; ⟨h, a, fun _ => none, h, fun _ => .inl rfl, fun _ _ e => by simp at e, Hp.le_refl _, hA, k⟩⟩
theorem Cs {p : Prop} (h : ∀ w, Inv C.w0 L w → p) (k : p → dM C ops rest Q E L) : dM C ops rest Q E L := fun a w ha hi => k (h w hi) a w ha hi
theorem gY {c : Code} {p : Prop} (h : ∀ w, Inv C.w0 L w → p) (k : p → Wp C c Q E L) : Wp C c Q E L := fun a w ha hi => k (h w hi) a w ha hi
theorem FN {w0 w : World} {L : List ad} {p : Option Addr} {n cap T sz : Nat} {vs : List Value} (hi : Inv w0 L w) (hm : Sl p n cap T sz vs ∈ L) :
    vs.length = n * sz ∧ n ≤ cap ∧ (n = 0 ∨ ∃ b o, p = some ⟨b, o, none⟩) := by
  obtain ⟨F, hb, h, a, h1, h2, d, l1, l2, hp, k⟩ := hi.mem hm
  rcases hp with ⟨rfl, rfl, rfl, rfl⟩ | ⟨b, o, pre, post, rfl, e1, e2, e3, e4, e5⟩
  · exact ⟨by simp, Nat.le_refl _, .inl rfl⟩
  · exact ⟨e3, e5, .inr ⟨b, o, rfl⟩⟩
theorem ez {x : Operand} {t ty' : TypeId} {e : TypeId} {p : Option Addr} {n cap : Nat} (ht : C.P.underlying t = some (.slice e)) (h : aq E x = some (.slice p n cap)) : cF C (.call ⟨.builtin .len, [x].toArray, #[t]⟩) ty E L (.int .i64 n) L :=
  dS fun d pos aft g a w ha => by simp [execOp, resolve, invoke, builtin, Builtin.len_, ha.eval h, run_underlying ht, goInt]
theorem Hh {x : Operand} {t ty' : TypeId} {e : TypeId} {p : Option Addr} {n cap : Nat} (ht : C.P.underlying t = some (.slice e)) (h : aq E x = some (.slice p n cap)) : cF C (.call ⟨.builtin .cap, [x].toArray, #[t]⟩) ty E L (.int .i64 cap) L :=
  dS fun d pos aft g a w ha => by simp [execOp, resolve, invoke, builtin, Builtin.cap_, ha.eval h, run_underlying ht, goInt]
theorem Gv {x y : Operand} {tys : Array TypeId} {k : IntKind} {m n : Int} (hx : aq E x = some (.int k m)) (hy : aq E y = some (.int k n)) : cF C (.call ⟨.builtin .min, [x, y].toArray, tys⟩) ty E L (.int k (if n < m then n else m)) L :=
  dS fun d pos aft g a w ha => by simp [execOp, resolve, invoke, builtin, Builtin.min_, Builtin.min2, ha.eval hx, ha.eval hy]
theorem Ap {x y : Operand} {tys : Array TypeId} {k : IntKind} {m n : Int} (hx : aq E x = some (.int k m)) (hy : aq E y = some (.int k n)) : cF C (.call ⟨.builtin .max, [x, y].toArray, tys⟩) ty E L (.int k (if m < n then n else m)) L :=
  dS fun d pos aft g a w ha => by simp [execOp, resolve, invoke, builtin, Builtin.max_, Builtin.max2, ha.eval hx, ha.eval hy]
theorem FA {x y : Operand} {t b o q n cap T sz : Nat} {vs vs' : List Value} {u : Value} (i : Nat) (hs : dq C.P t = true) (hx : aq E x = some (.pointer (some ⟨b, q, none⟩))) (hy : aq E y = some u) (h1 : u.oneCell' = true)
    (hr : jV L (Sl (some ⟨b, o, none⟩) n cap T sz vs) (Sl (some ⟨b, o, none⟩) n cap T sz vs') L') (hq : q = o + i) (hlt : i < vs.length) (hc : vs.set i u = vs') : cF C (.store t x y) ty E L undef L' := by
  intro d pos aft g a w ha hi
  obtain ⟨F, p1, p2⟩ := hr.perm
  obtain ⟨⟨b', o', pre, post⟩, ⟨e1, e2, e3, e4, e5⟩, hi1⟩ := (hi.perm p1).vC (ι := Nat × Nat × List Value × List Value) (K := fun z => (some (⟨b, o, none⟩ : Addr) = some ⟨z.1, z.2.1, none⟩) ∧ z.2.2.1.length = z.2.1 ∧ vs.length = n * sz ∧ (cap - n) * sz ≤ z.2.2.2.length ∧ n ≤ cap)
    (B := fun z => [ao z.1 T (z.2.2.1 ++ vs ++ z.2.2.2)]) (by
      rintro h (⟨e, _⟩ | ⟨b', o', pre, post, e1, e2, e3, e4, e5, e6⟩)
      · cases e
      · exact ⟨(b', o', pre, post), ⟨e1, e3, e4, e5, e6⟩, h, fun _ => none, fun _ => .inr rfl, Hp.le_refl _, fun _ _ e => by simp at e, e2, trivial⟩)
  simp only at e1 e2 e3 e4 e5 hi1
  cases e1
  subst hq
  obtain ⟨w', hr1, hi2, _⟩ := bZ (C := C) (E := E) (ty := ty) (o := o + i) (cs := pre ++ vs ++ post) (cs' := pre ++ vs' ++ post) hs hx hy h1 (jV.head (L := F)) (by simp; omega) (by
    rw [← hc, List.append_assoc, List.set_append_right _ _ (by omega), show o + i - pre.length = i by omega, List.set_append_left _ _ hlt, List.append_assoc]) d pos aft g a w ha hi1
  refine ⟨w', hr1, ?_, fun h => by cases h⟩
  refine Inv.perm ?_ p2
  refine Inv.cls (B := [ao b T (pre ++ vs' ++ post)]) ?_ hi2
  rintro h ⟨h1, h2, _, l1, _, c, _⟩
  exact .inr ⟨b, o, pre, post, rfl, c.mono l1, e2, by rw [← hc]; simpa using e3, e4, e5⟩
def eo (p : Option Addr) (l m sz : Nat) : Option Addr := if m = l then p else p.map (·.add (l * sz))
theorem nU (p : Option Addr) (m sz : Nat) : eo p 0 m sz = p := by
  unfold eo
  split
  · rfl
  · cases p <;> simp [Addr.add]
theorem Bu (b o l m sz : Nat) (h : l < m) : eo (some ⟨b, o, none⟩) l m sz = some ⟨b, o + l * sz, none⟩ := by
  unfold eo
  rw [if_neg (by omega)]
  simp [Addr.fX]
theorem dX {x : Operand} {lo hi mx : Option Operand} {t e sz cJ n cap : Nat} {p : Option Addr} (l r m : Nat) (ht : sliceB C.P t = some (e, sz, cJ)) (hx : aq E x = some (.slice p n cap))
    (hl : match lo with | none => l = 0 | some z => ∃ k, aq E z = some (.int k (l : Int)))
    (hr : match hi with | none => r = n ∧ mx = none | some z => ∃ k, aq E z = some (.int k (r : Int)))
    (hm : match mx with | none => m = cap | some z => ∃ k, aq E z = some (.int k (m : Int)))
    (h1 : l ≤ r) (h2 : r ≤ m) (h3 : m ≤ cap) : cF C (.slice t x lo hi mx) ty E L (.slice (eo p l m sz) (r - l) (m - l)) L :=
  dS fun d pos aft g a w ha => by
    obtain ⟨e1, i, e2, e3, e4⟩ := jP ht
    have key : ∀ (z : Operand) (j y : Nat) (c : BoundsCode) k, aq E z = some (.int k (j : Int)) → j ≤ y → (Instr.sliceBound (a.eval z) y c).run C.P w = .ok j w := by
      intro z j y c k hz hj
      have : (j : Int) ≤ (y : Int) := by omega
      simp [Instr.sliceBound, ha.eval hz, asIntOf, hj]
    have hb : (Instr.sliceBounds true n cap (lo.map a.eval) (hi.map a.eval) (mx.map a.eval)).run C.P w = .ok (l, r, m) w := by
      unfold Instr.sliceBounds
      cases mx with
      | none =>
        simp only at hm
        subst hm
        cases hi with
        | none =>
          simp only at hr
          obtain ⟨rfl, _⟩ := hr
          cases lo with
          | none => simp only at hl; subst hl; simp
          | some z => simp only at hl; obtain ⟨k, hz⟩ := hl; simp [key z l _ _ k hz h1]
        | some y =>
          simp only at hr
          obtain ⟨k', hy⟩ := hr
          cases lo with
          | none => simp only at hl; subst hl; simp [key y r _ _ k' hy h2]
          | some z => simp only at hl; obtain ⟨k, hz⟩ := hl; simp [key z l _ _ k hz h1, key y r _ _ k' hy h2]
      | some u =>
        simp only at hm
        obtain ⟨k2, hu⟩ := hm
        cases hi with
        | none => simp at hr
        | some y =>
          simp only at hr
          obtain ⟨k', hy⟩ := hr
          cases lo with
          | none => simp only at hl; subst hl; simp [key y r _ _ k' hy h2, key u m _ _ k2 hu h3]
          | some z => simp only at hl; obtain ⟨k, hz⟩ := hl; simp [key z l _ _ k hz h1, key y r _ _ k' hy h2, key u m _ _ k2 hu h3]
    simp [execOp, ha.eval hx, Instr.sliceAt, run_underlying e1, Instr.slice, hb, run_sizeOf e2, e3, eo]
end
end Go.Sl
namespace Go.Sl
open Go.RowKit (Below)
theorem Sl.open_ {p : Option Addr} {n cap T sz : Nat} {vs : List Value} (w0 : World) (h : Hp) (hs : Sl p n cap T sz vs w0 h) :
    ∃ z : Option (Nat × Nat × List Value × List Value), (match z with
      | none => p = none ∧ n = 0 ∧ cap = 0 ∧ vs = []
      | some (b, o, pre, post) => p = some ⟨b, o, none⟩ ∧ pre.length = o ∧ vs.length = n * sz ∧ (cap - n) * sz ≤ post.length ∧ n ≤ cap) ∧
      dk w0 (match z with | none => [] | some (b, o, pre, post) => [ao b T (pre ++ vs ++ post)]) h := by
  rcases hs with ⟨rfl, rfl, rfl, rfl⟩ | ⟨b, o, pre, post, e1, e2, e3, e4, e5, e6⟩
  · exact ⟨none, ⟨rfl, rfl, rfl, rfl⟩, trivial⟩
  · exact ⟨some (b, o, pre, post), ⟨e1, e3, e4, e5, e6⟩, h, fun _ => none, fun _ => .inr rfl, Hp.le_refl _, fun _ _ e => by simp at e, e2, trivial⟩
theorem Sl.mk {b o n cap T sz : Nat} {pre vs post : List Value} {w0 : World} {h : Hp} (hc : dk w0 [ao b T (pre ++ vs ++ post)] h) (h1 : pre.length = o) (h2 : vs.length = n * sz) (h3 : (cap - n) * sz ≤ post.length) (h4 : n ≤ cap) : Sl (some ⟨b, o, none⟩) n cap T sz vs w0 h := by
  obtain ⟨g, g2, _, l1, _, c, _⟩ := hc
  exact .inr ⟨b, o, pre, post, rfl, c.mono l1, h1, h2, h3, h4⟩
theorem ao.sl {b n T sz : Nat} {vs : List Value} {w0 : World} {h : Hp} (hc : ao b T vs w0 h) (h2 : vs.length = n * sz) : Sl (some ⟨b, 0, none⟩) n n T sz vs w0 h :=
  .inr ⟨b, 0, [], [], rfl, by simpa using hc, rfl, h2, by simp, Nat.le_refl _⟩
theorem Sl.nil (T sz : Nat) (w0 : World) (h : Hp) : Sl none 0 0 T sz [] w0 h := .inl ⟨rfl, rfl, rfl, rfl⟩
theorem Inv.C3 {w0 w : World} {L : List ad} (hi : Inv w0 L w) (T sz : Nat) : Inv w0 (Sl none 0 0 T sz [] :: L) w := hi.wS (Sl.nil T sz _ _)
section
variable {C : Ctx} {Q : QT} {E : Env} {L L' : List ad} {ops : Array Oper} {rest : List Oper} {d : Nat} {ty : TypeId} {pos : String} {aft : Array Edge} {op : Op} {v : Value}
theorem gp {c : Code} (A : ad) (hA : A C.w0 (fun _ => none)) (k : Wp C c Q E (A :: L)) : Wp C c Q E L := fun a w ha hi => k a w ha (hi.wS hA)
theorem F3 {A B : ad} {F : List ad} (hr : iq L A F) (hA : ∀ h, A C.w0 h → B C.w0 h) (k : dM C ops rest Q E (B :: F)) : dM C ops rest Q E L := fun a w ha hi => k a w ha ((hi.perm hr.perm).imp hA)
theorem ka {b : Builtin} {xs : List Operand} {tys : Array TypeId} {vs : List Value} {a : Act} (hx : xs.toArray.map a.eval = vs.toArray) (d : Option Nat) (g : Option (Nat × Bool)) (w : World) :
    ∃ consts, (execOp a.eval ⟨d, .call ⟨.builtin b, xs.toArray, tys⟩, ty, pos, aft, g⟩).run C.P w = (builtin b tys ty consts vs.toArray).run C.P w := by
  refine ⟨xs.toArray.map fun | .const _ => true | _ => false, ?_⟩
  simp only [execOp, resolve, hx, Sem.run_bind, Sem.run_pure, Result.andThen_ok, invoke]
  rfl
theorem wV {s x : Operand} {t e sz cJ n m cap cap2 : Nat} {p p2 : Option Addr} {vs ws zs : List Value} {R : ad} {F : List ad}
    (ht : sliceB C.P t = some (e, sz, cJ)) (hz : dH C.P e = some zs) (hsz : Nat.ble 1 sz = true) (hby : Nat.ble 1 cJ = true)
    (hs : aq E s = some (.slice p n cap)) (hx : aq E x = some (.slice p2 m cap2))
    (hL : iq L (Sl p n cap e sz vs) F) (hm : R ∈ L) (hR : ∀ h, R C.w0 h → Rd p2 m sz ws C.w0 h) (h1 : ws.all Value.oneCell' = true) (hb : (n + m) * cJ ≤ 140737488355328) :
    kO C (.call ⟨.builtin .append, [s, x].toArray, #[t, t]⟩) ty E L (fun v L' => ∃ p' cap', v = .slice p' (n + m) cap' ∧ L' = Sl p' (n + m) cap' e sz (vs ++ ws) :: F) := by
  intro d pos aft g a w K Qx ha hi hK
  obtain ⟨ht1, i, hi2, rfl, rfl⟩ := jP ht
  obtain ⟨i', z, hz1, hz2, hz3, hz4⟩ := kh hz
  rw [hi2] at hz1
  cases hz1
  have hsz := Nat.le_of_ble_eq_true hsz
  have hby := Nat.le_of_ble_eq_true hby
  have hnm : n + m ≤ (n + m) * i.bytes := Nat.le_mul_of_pos_right _ hby
  have hsmall : n + m ≤ 140737488355328 := by omega
  obtain ⟨hwl, hwc⟩ := hi.rd hm hR
  obtain ⟨consts, hrun⟩ := ka (C := C) (ty := ty) (pos := pos) (aft := aft) (b := .append) (xs := [s, x]) (tys := #[t, t]) (vs := [.slice p n cap, .slice p2 m cap2]) (a := a) (by simp [ha.eval hs, ha.eval hx]) d g w
  suffices h : ∃ p' cap' w', (Builtin.append_ #[t, t] ty #[.slice p n cap, .slice p2 m cap2]).run C.P w = .ok (.slice p' (n + m) cap') w' ∧ Inv C.w0 (Sl p' (n + m) cap' e i.size (vs ++ ws) :: F) w' by
    obtain ⟨p', cap', w', hr, hi'⟩ := h
    unfold Oper.wp
    rw [hrun]
    simp only [builtin, Sem.run_bind, hr, Result.andThen_ok, Sem.run_pure]
    exact hK _ _ _ ⟨p', cap', rfl, rfl⟩ hi'
  have hfirst : ∀ w1 : World, (∀ q, w1.cell? q = w.cell? q) → (Builtin.firstCells i.size m (.slice p2 m cap2)).run C.P w1 = .ok ws.toArray w1 := by
    intro w1 hw1
    by_cases hm0 : m = 0
    · subst hm0
      simp at hwl
      subst hwl
      cases p2 <;> simp [Builtin.firstCells, loadCells, loadCellsFrom]
    · rcases hwc with hwc | ⟨b2, o2, rfl, hc⟩
      · exact absurd hwc hm0
      · exact run_firstCells_some (P := C.P) w1 i.size m _ m cap2 ws hwl (fun j v hj => by rw [hw1, Addr.fX]; exact hc j v hj)
  have hall : ∀ u ∈ ws, u.oneCell' = true := fun u hu => by simpa using List.all_eq_true.1 h1 u hu
  have hgrow : ∀ (vs0 : List Value), vs0 = vs → n * i.size = vs.length → cap < n + m →
      (∀ w1 : World, (∀ q, w1.cell? q = w.cell? q) → (Builtin.firstCells i.size n (.slice p n cap)).run C.P w1 = .ok vs.toArray w1) →
      Inv C.w0 F w →
      ∃ p' cap' w', (Builtin.append_ #[t, t] ty #[.slice p n cap, .slice p2 m cap2]).run C.P w = .ok (.slice p' (n + m) cap') w' ∧ Inv C.w0 (Sl p' (n + m) cap' e i.size (vs ++ ws) :: F) w' := by
    intro vs0 _ hvl hlt hold hiF
    have hfit : Builtin.nextslicecap (n + m) cap * i.bytes ≤ 281474976710656 := growslice_fits hlt hb
    have h63 : ¬ (9223372036854775807 < ((n : Int) + (m : Int))) := by omega
    have h48 : ¬ (281474976710656 < Builtin.nextslicecap (n + m) cap * i.bytes) := by omega
    have hng : ¬ (n + m ≤ cap) := by omega
    refine ⟨some ⟨w.heap.size, 0, none⟩, grownCap w (n + m) cap e, w.drew.alloc (.cells (vs ++ ws ++ (Builtin.zeroCells z.cells (grownCap w (n + m) cap e - (n + m))).toList).toArray e), ?_, ?_⟩
    · have e1 := hold w.drew (fun q => by simp)
      have e2 := hfirst w.drew (fun q => by simp)
      have harr : ∀ Z : Array Value, (vs ++ ws ++ Z.toList).toArray = vs.toArray ++ ws.toArray ++ Z := fun Z => by apply Array.ext'; simp
      rw [harr]
      simp [Builtin.append_, run_underlying ht1, sizeOf, typeInfo, zeroValue, hi2, hz2, Builtin.lenOf, hng, h63, h48, Question.forced, e1, e2, newRow, grownCap]
      congr 1
      congr 1
      apply Array.ext'
      simp
    · have hge := grownCap_ge w (n + m) cap e
      refine Inv.imp ?_ (hiF.drew.alloc e (vs ++ ws ++ (Builtin.zeroCells z.cells (grownCap w (n + m) cap e - (n + m))).toList))
      intro h hc
      refine .inr ⟨_, 0, [], (Builtin.zeroCells z.cells (grownCap w (n + m) cap e - (n + m))).toList, rfl, by simpa using hc, rfl, ?_, ?_, hge⟩
      · simp [← hvl, hwl, Nat.add_mul]
      · have : z.cells.size = i.size := by rw [hz3, hz4]; simp
        simp [size_zeroCells, this]
  obtain ⟨zz, hzz, hi1⟩ := (hi.perm hL.perm).vC (Sl.open_ C.w0)
  cases zz with
  | none =>
    obtain ⟨rfl, rfl, rfl, rfl⟩ := hzz
    by_cases hm0 : m = 0
    · subst hm0
      simp at hwl
      subst hwl
      refine ⟨none, 0, w, ?_, (hi1.C3 e i.size)⟩
      have e1 := hfirst w (fun q => rfl)
      simp [Builtin.append_, run_underlying ht1, sizeOf, typeInfo, hi2, Builtin.lenOf, e1]
    · exact hgrow [] rfl (by simp) (by omega) (fun w1 _ => by simp [Builtin.firstCells]) hi1
  | some zz =>
    obtain ⟨b, o, pre, post⟩ := zz
    obtain ⟨rfl, e1, e2, e3, e4⟩ := hzz
    by_cases hroom : n + m ≤ cap
    · have hfit : o + n * i.size + ws.length ≤ (pre ++ vs ++ post).length := by
        have : (n + m - n) * i.size ≤ (cap - n) * i.size := Nat.mul_le_mul_right _ (by omega)
        rw [show n + m - n = m by omega] at this
        simp only [List.length_append, e1, e2, hwl]
        omega
      obtain ⟨w', hr, hi'⟩ := jA (C := C) ws (o + n * i.size) 0 _ _ w hall (by simpa using hfit) hi1
      refine ⟨some ⟨b, o, none⟩, cap, w', ?_, ?_⟩
      · have hf := hfirst w (fun q => rfl)
        simp [Builtin.append_, run_underlying ht1, sizeOf, typeInfo, hi2, Builtin.lenOf, hroom, hf, Addr.fX, hr]
      · refine Inv.cls (B := [ao b e (pre ++ (vs ++ ws) ++ post.drop ws.length)]) (fun h hc => Sl.mk hc e1 (by simp [e2, hwl, Nat.add_mul]) ?_ hroom) ?_
        · simp only [List.length_drop, hwl]
          have : (cap - (n + m)) * i.size = (cap - n) * i.size - m * i.size := by rw [← Nat.sub_mul]; congr 1; omega
          omega
        · have e5 : (pre ++ vs ++ post).take (o + n * i.size + 0) = pre ++ vs := by
            rw [Nat.add_zero]
            exact List.take_left' (by simp [e1, e2])
          have e6 : (pre ++ vs ++ post).drop (o + n * i.size + 0 + ws.length) = post.drop ws.length := by
            rw [Nat.add_zero, show o + n * i.size + ws.length = (pre ++ vs).length + ws.length by simp [e1, e2]]
            rw [← List.drop_drop, List.drop_left]
          rw [e5, e6] at hi'
          simpa [List.append_assoc] using hi'
    · refine hgrow vs rfl e2.symm (by omega) (fun w1 hw1 => ?_) hi1.tail
      refine run_firstCells_some (P := C.P) w1 i.size n _ n cap vs e2 (fun j v hj => ?_)
      have hlt := (List.getElem?_eq_some_iff.1 hj).1
      rw [hw1, Addr.fX, Inv.ji hi1]
      rw [List.append_assoc, List.getElem?_append_right (by omega), show o + j - pre.length = j by omega, List.getElem?_append_left hlt]
      exact hj
theorem KR {x y : Operand} {t e sz cJ : Nat} {k1 k2 : IntKind} {i1 i2 : Int} {zs : List Value} (n c : Nat) (e1 : i1 = (n : Int)) (e2 : i2 = (c : Int)) (ht : sliceB C.P t = some (e, sz, cJ)) (hz : dH C.P e = some zs) (hsz : Nat.ble 1 sz = true)
    (hx : aq E x = some (.int k1 i1)) (hy : aq E y = some (.int k2 i2)) (hnc : n ≤ c) (h63 : c ≤ 9223372036854775807) (hb : c * cJ ≤ 281474976710656) :
    kO C (.makeSlice t x y) ty E L (fun v L' => ∃ b, v = .slice (some ⟨b, 0, none⟩) n c ∧ L' = Sl (some ⟨b, 0, none⟩) n c e sz ((List.replicate n zs).flatten) :: L) := by
  intro d pos aft g a w K Qx ha hi hK
  subst e1
  subst e2
  obtain ⟨ht1, i, hi2, rfl, rfl⟩ := jP ht
  obtain ⟨i', z, hz1, hz2, hz3, hz4⟩ := kh hz
  rw [hi2] at hz1
  cases hz1
  have hsz := Nat.le_of_ble_eq_true hsz
  have hc : ((c * i.bytes : Nat) : Int) = (i.bytes : Int) * (c : Int) := by rw [Int.natCast_mul, Int.mul_comm]
  have hr := run_make (P := C.P) w t e i z ht1 hi2 hz2 k1 k2 n c (by omega) (by omega) (by omega) (by omega)
  have hm : (madeCells z.cells (c * i.size)).toList = (List.replicate c zs).flatten := by
    have hzl : zs.length = i.size := hz4.symm
    apply List.ext_getElem?
    intro j
    by_cases hj : j < c * i.size
    · have h1 : ((List.replicate c zs).flatten)[j]? = zs[j % i.size]? := by
        have hgen : ∀ (c j : Nat), j < c * zs.length → ((List.replicate c zs).flatten)[j]? = zs[j % zs.length]? := by
          intro c
          induction c with
          | zero => intro j h; simp at h
          | succ c ih =>
            intro j h
            simp only [List.replicate_succ, List.flatten_cons]
            by_cases hj : j < zs.length
            · rw [List.getElem?_append_left hj, Nat.mod_eq_of_lt hj]
            · rw [List.getElem?_append_right (by omega), ih _ (by rw [Nat.succ_mul] at h; omega)]
              congr 1
              exact (Nat.mod_eq_sub_mod (by omega)).symm
        have := hgen c j (by rw [hzl]; exact hj)
        rwa [hzl] at this
      rw [h1]
      have hlt : j % i.size < i.size := Nat.mod_lt _ (by omega)
      simp [madeCells, hz3, hj]
      rw [hzl]
      simp [hlt, hzl]
    · rw [List.getElem?_eq_none, List.getElem?_eq_none]
      · simp [hzl]; omega
      · simp [madeCells]; omega
  have hrun : (execOp a.eval ⟨d, .makeSlice t x y, ty, pos, aft, g⟩).run C.P w = .ok (.value (.slice (some ⟨w.heap.size, 0, none⟩) n c)) (w.alloc (.cells ((List.replicate c zs).flatten).toArray e)) := by
    simp only [execOp, ha.eval hx, ha.eval hy, Sem.run_bind, hr, Result.andThen_ok, Sem.run_pure, Int.toNat_natCast]
    congr 2
    rw [← hm]
  unfold Oper.wp
  rw [hrun]
  refine hK _ _ _ ⟨_, rfl, rfl⟩ (Inv.imp (fun h hc => ?_) (hi.alloc e _))
  refine .inr ⟨_, 0, [], (List.replicate (c - n) zs).flatten, rfl, ?_, rfl, by simp [hz4], by simp [hz4], hnc⟩
  have : (List.replicate c zs).flatten = (List.replicate n zs).flatten ++ (List.replicate (c - n) zs).flatten := by
    rw [← List.flatten_append, List.replicate_append_replicate, show n + (c - n) = c by omega]
  simp only [List.nil_append]
  rw [← this]
  exact hc
theorem yf {t e sz cJ len : Nat} {parts : List (Nat × Operand)} {pv : List (Nat × Value)} {zs vs : List Value} (ht : sliceB C.P t = some (e, sz, cJ)) (hz : dH C.P e = some zs) (hsz : Nat.ble 1 sz = true) (hsm : Nat.ble (len * sz) 16777216 = true)
    (hp : ∀ a, gl C E a → parts.map (fun p => (p.1, a.eval p.2)) = pv) (hf : Instr.fill (fun i => some (i * sz, sz)) ((List.replicate len zs).flatten.toArray) pv = some vs.toArray) (hl : vs.length = len * sz) :
    kO C (.buildSlice t len parts.toArray) ty E L (fun v L' => ∃ b, v = .slice (some ⟨b, 0, none⟩) len len ∧ L' = Sl (some ⟨b, 0, none⟩) len len e sz vs :: L) := by
  intro d pos aft g a w K Qx ha hi hK
  obtain ⟨ht1, i, hi2, rfl, rfl⟩ := jP ht
  obtain ⟨i', z, hz1, hz2, hz3, hz4⟩ := kh hz
  rw [hi2] at hz1
  cases hz1
  have hsz := Nat.le_of_ble_eq_true hsz
  have hsm := Nat.le_of_ble_eq_true hsm
  have hzl : zs.length = i.size := hz4.symm
  have hgen : ∀ (c j : Nat), j < c * zs.length → ((List.replicate c zs).flatten)[j]? = zs[j % zs.length]? := by
    intro c
    induction c with
    | zero => intro j h; simp at h
    | succ c ih =>
      intro j h
      simp only [List.replicate_succ, List.flatten_cons]
      by_cases hj : j < zs.length
      · rw [List.getElem?_append_left hj, Nat.mod_eq_of_lt hj]
      · rw [List.getElem?_append_right (by omega), ih _ (by rw [Nat.succ_mul] at h; omega)]
        congr 1
        exact (Nat.mod_eq_sub_mod (by omega)).symm
  have hzero : ∀ zz : Array Value, (len * i.size = 0 → zz = #[]) → (len * i.size ≠ 0 → zz = zs.toArray) → (Array.range (len * i.size)).map (zz[· % zz.size]!) = (List.replicate len zs).flatten.toArray := by
    intro zz h0 h1
    apply Array.ext'
    simp only [Array.toList_map, Array.toList_range]
    apply List.ext_getElem?
    intro j
    by_cases hj : j < len * i.size
    · rw [h1 (by omega)]
      have hlt : j % i.size < i.size := Nat.mod_lt _ (by omega)
      rw [hgen len j (by rw [hzl]; exact hj), hzl]
      simp [hj, hzl, hlt]
    · rw [List.getElem?_eq_none, List.getElem?_eq_none]
      · simp [hzl]; omega
      · simp; omega
  have hmap : parts.toArray.map (fun x => match x with | (i, x) => (i, a.eval x)) = pv.toArray := by
    rw [← hp a ha]
    simp
  have hrun : (execOp a.eval ⟨d, .buildSlice t len parts.toArray, ty, pos, aft, g⟩).run C.P w = .ok (.value (.slice (some ⟨w.heap.size, 0, none⟩) len len)) (w.alloc (.cells vs.toArray e)) := by
    have h16 : ¬ (len * i.size > 2 ^ 24) := by omega
    simp only [execOp, hmap, Instr.buildSlice, Sem.run_bind, run_underlying ht1, Result.andThen_ok, run_sizeOf hi2, if_neg h16]
    by_cases h0 : len * i.size = 0
    · have e := hzero #[] (fun _ => rfl) (fun h => absurd h0 h)
      simp only [if_pos h0, Sem.run_bind, Sem.run_pure, Result.andThen_ok, e, hf]
      simp [newRow]
    · have e := hzero zs.toArray (fun h => absurd h h0) (fun _ => rfl)
      simp only [if_neg h0, Sem.run_bind, Sem.run_pure, Result.andThen_ok, zeroValue, typeInfo, run_program, hi2, hz2, hz3, e, hf]
      simp [newRow]
  unfold Oper.wp
  rw [hrun]
  exact hK _ _ _ ⟨_, rfl, rfl⟩ (Inv.imp (fun h hc => ao.sl hc hl) (hi.alloc e vs))
def oS (E : Env) : List (Nat × Operand) → Option (List (Nat × Value))
  | [] => some []
  | (i, x) :: xs => match aq E x with | some v => (match oS E xs with | some vs => some ((i, v) :: vs) | none => none) | none => none
theorem nS : ∀ {ps : List (Nat × Operand)} {pv : List (Nat × Value)}, oS E ps = some pv → ∀ a, gl C E a → ps.map (fun p => (p.1, a.eval p.2)) = pv
  | [], pv, h, a, ha => by simp only [oS] at h; cases h; rfl
  | (i, x) :: ps, pv, h, a, ha => by
    simp only [oS] at h
    split at h <;> try simp at h
    rename_i v hv
    split at h <;> try simp at h
    rename_i vs hvs
    subst h
    simp [ha.eval hv, nS hvs a ha]
def fO (P : Program) (t : TypeId) : Option (List (Nat × Nat)) := match P.underlying t with
  | some (.struct fs) => fs.toList.mapM fun f => match P.info? f.type with | some i => some (f.offset, i.size) | none => none
  | _ => none
theorem cB {t : TypeId} {parts : List (Nat × Operand)} {pv : List (Nat × Value)} {zs cs : List Value} {pl : List (Nat × Nat)} (hpl : fO C.P t = some pl) (hz : dH C.P t = some zs) (hp : oS E parts = some pv) (hf : Instr.fill (pl.toArray[·]?) zs.toArray pv = some cs.toArray) :
    cF C (.build t parts.toArray) ty E L (.agg cs.toArray) L :=
  dS fun d pos aft g a w ha => by
    obtain ⟨i', z, hz1, hz2, hz3, hz4⟩ := kh hz
    have hmap : parts.toArray.map (fun x => match x with | (i, x) => (i, a.eval x)) = pv.toArray := by
      rw [← nS hp a ha]; simp
    unfold fO at hpl
    split at hpl
    · rename_i fs hfs
      have hplaces : ((fs.mapM fun f => do pure (f.offset, ← sizeOf f.type)) : Sem (Array (Nat × Nat))).run C.P w = .ok pl.toArray w := by
        have hgen : ∀ (l : List Field) (pl : List (Nat × Nat)), l.mapM (fun f => match C.P.info? f.type with | some i => some (f.offset, i.size) | none => none) = some pl →
            ((l.mapM fun f => do pure (f.offset, ← sizeOf f.type)) : Sem (List (Nat × Nat))).run C.P w = .ok pl w := by
          intro l
          induction l with
          | nil => intro pl h; simp at h; subst h; simp
          | cons f l ih =>
            intro pl h
            simp only [List.mapM_cons] at h ⊢
            cases hi : C.P.info? f.type with
            | none => simp [hi] at h
            | some i =>
              simp only [hi] at h
              cases hl : l.mapM (fun f => match C.P.info? f.type with | some i => some (f.offset, i.size) | none => none) with
              | none => simp [hl] at h
              | some pl' =>
                simp [hl] at h
                subst h
                have := ih pl' hl
                simp only [Sem.run_bind, run_sizeOf hi, Result.andThen_ok, Sem.run_pure, this]
        rw [Array.mapM_eq_mapM_toList]
        have := hgen fs.toList pl hpl
        simp only [Sem.run_map, this, Result.andThen_ok]
      simp only [execOp, hmap, Instr.build, Sem.run_bind, zeroValue, typeInfo, run_program, Result.andThen_ok, hz1, hz2, Sem.run_pure, run_underlying hfs, hplaces, hz3]
      simp only [List.getElem?_toArray] at hf ⊢
      simp [hf]
    · cases hpl
end
end Go.Sl
namespace Go.Sl
open Go.RowKit (Below)
def eS (y : Nat → Value) (i : Nat) (v : Value) : Nat → Value := fun j => if j = i then v else y j
theorem mZ (y : Nat → Value) (i : Nat) (v : Value) : eS y i v i = v := by simp [eS]
theorem wD {y : Nat → Value} {i j : Nat} {v : Value} (h : j ≠ i) : eS y i v j = y j := by simp [eS, h]
def QX (C : Ctx) := { Q : Exit → Act → World → Prop // ∀ ch E L a w, gl C E a → Inv C.w0 L w → C.X ch L → Q (.panic ch) a w }
def Step (C : Ctx) (ops : Array Oper) (o : Oper) (E : Env) (L : List ad) (R : Value → List ad → Prop) : Prop :=
  ∀ a w (K : Act → World → Prop) (Q : QX C), gl C E a → Inv C.w0 L w → (∀ v L' w', R v L' → Inv C.w0 L' w' → K (a.put o.dst v) w') →
    (if Region.wanted o (yielded ops a.tmps) then o.wp C.P a w K Q.1 else K (a.put o.dst undef) w)
section
variable {C : Ctx} {ops : Array Oper} {E : Env} {L L' : List ad} {R : Value → List ad → Prop} {d : Option Nat} {ty : TypeId} {pos : String} {aft : Array Edge} {op : Op} {v : Value}
theorem ux (h : kO C op ty E L R) : Step C ops ⟨d, op, ty, pos, aft, none⟩ E L R := fun a w K Q ha hi hK => by
  rw [if_pos (by simp [Region.wanted])]
  exact h d pos aft none a w K Q.1 ha hi hK
theorem dC (h : cF C op ty E L v L') (hR : R v L') : Step C ops ⟨d, op, ty, pos, aft, none⟩ E L R :=
  ux (fun d pos aft g a w K Q ha hi hK => h.x d pos aft g a w K Q ha hi (fun v' M w' ⟨e1, e2⟩ hi' => hK v' M w' (by subst e1; subst e2; exact hR) hi'))
theorem eX {j : Nat} {want : Bool} (hg : jU ops E j = some want) (h : Step C ops ⟨d, op, ty, pos, aft, none⟩ E L R) : Step C ops ⟨d, op, ty, pos, aft, some (j, want)⟩ E L R := fun a w K Q ha hi hK => by
  have hw := kA (o := ⟨d, op, ty, pos, aft, some (j, want)⟩) ha hg rfl
  rw [if_pos (by rw [hw]; simp)]
  have h1 := h a w K Q ha hi hK
  rw [if_pos (by simp [Region.wanted])] at h1
  exact h1
theorem eW {j : Nat} {want b : Bool} (hg : jU ops E j = some b) (hb : (b == want) = false) (hR : R undef L) : Step C ops ⟨d, op, ty, pos, aft, some (j, want)⟩ E L R := fun a w K Q ha hi hK => by
  have hw := kA (o := ⟨d, op, ty, pos, aft, some (j, want)⟩) ha hg rfl
  rw [if_neg (by rw [hw, hb]; simp)]
  exact hK _ _ _ hR hi
end
def mw (o : Oper) : List Nat := o.after.toList.filterMap fun e => if Region.binds .any e then some e.on else none
structure eR where
  gB : List Nat
  jB : List Nat
  l9 : List Nat
  lo : Nat
  hi : Nat
def mem (x : Nat) : List Nat → Bool
  | [] => false
  | y :: l => Nat.beq x y || mem x l
theorem mem_iff {x : Nat} : ∀ {l : List Nat}, mem x l = true ↔ x ∈ l
  | [] => by simp [mem]
  | y :: l => by
    simp only [mem, Bool.or_eq_true, List.mem_cons, mem_iff (l := l)]
    constructor
    · rintro (h | h)
      · exact .inl (Nat.eq_of_beq_eq_true h)
      · exact .inr h
    · rintro (h | h)
      · exact .inl (by subst h; simp)
      · exact .inr h
def fg (ps : List eR) (i : Nat) : List Nat := match ps[i]? with | some p => p.gB | none => []
def eV (l : List Oper) (i : Nat) : Option Nat := match l[i]? with | some o => o.dst | none => none
def noSelect : Op → Bool
  | .select _ _ => false
  | _ => true
def Cm (ps : List eR) : List Nat → Bool
  | [] => true
  | c :: r => r.all (fun q => mem c (fg ps q)) && Cm ps r
def xX (C : Ctx) (l : List Oper) (ps : List eR) (ch : List Nat) (i : Nat) : Bool :=
  match l[i]?, ps[i]? with
  | some o, some p =>
    noSelect o.op &&
    (mw o).all (fun j => Nat.blt j i) &&
    p.gB.all (fun j => Nat.blt j i && (mem j (mw o) || (mw o).any (fun k => mem j (fg ps k)))) &&
    p.jB.all (fun j => mem j p.gB) &&
    p.l9.all (fun s => (List.range l.length).all fun j => match eV l j with | some t => !(Nat.beq t s) || Nat.beq j i || mem i (fg ps j) | none => true) &&
    (ch.take p.lo).all (fun c => mem c p.gB) && Nat.ble p.lo ch.length &&
    (match ch[p.hi]? with | some c => Nat.beq c i || mem i (fg ps c) | none => true) &&
    (match o.dst with
      | some t => Nat.blt t C.n && (List.range l.length).all (fun j => Nat.beq j i || (match eV l j with | some u => !(Nat.beq u t) | none => true))
      | none => true) &&
    (match o.guard with | some (j, _) => mem j p.jB | none => true)
  | _, _ => false
def SF (C : Ctx) (l : List Oper) (ps : List eR) (ch : List Nat) : Bool :=
  (List.range l.length).all (xX C l ps ch) && Cm ps ch && ch.all (fun c => Nat.blt c l.length) &&
  (List.range ch.length).all (fun p => match ch[p]? with | some c => (match ps[c]? with | some q => Nat.beq q.lo p && Nat.beq q.hi p | none => false) | none => false)
def ry (l : List Oper) (E0 : Env) (p : eR) (y : Nat → Value) : Env :=
  (p.jB.filterMap fun j => match eV l j with | some t => some (t, y j) | none => none) ++ p.l9.filterMap fun s => match E0.get s with | some v => some (s, v) | none => none
def sd (l : List Oper) (y : Nat → Value) : Nat → Env → Env
  | 0, E => E
  | i + 1, E => match eV l i with | some t => (t, y i) :: sd l y i E | none => sd l y i E
def SM (C : Ctx) (l : List Oper) (E0 : Env) (ps : List eR) (ch : List Nat) (Φ : Nat → (Nat → Value) → Prop) (Lk : Nat → (Nat → Value) → List ad) (At : Nat → (Nat → Value) → List ad) (AP : List ad → Prop) (i : Nat) : Prop :=
  ∀ o p, l[i]? = some o → ps[i]? = some p → ∀ y k A, AP A → k ≤ ch.length → p.lo ≤ k → k ≤ p.hi → (∀ j ∈ p.gB, Φ j y) → (∀ j ∈ p.gB, ∀ B ∈ At j y, B ∈ A) →
    Step C l.toArray o (ry l E0 p y) (Lk k y ++ A) (fun v L' => ∃ A', AP A' ∧ Φ i (eS y i v) ∧ L'.Perm (Lk (if mem i ch then k + 1 else k) (eS y i v) ++ A') ∧ (∀ B ∈ A, B ∈ A') ∧ (∀ B ∈ At i (eS y i v), B ∈ A'))
theorem jE (m j : Nat) : (Array.replicate m false).getD j false = false := by
  rcases Nat.lt_or_ge j m with h | h
  · simp [h]
  · simp [h]
theorem qu {listed : Array Bool} {i : Nat} (h : listed.getD i true = false) : listed.getD i false = false := by
  rcases Nat.lt_or_ge i listed.size with h' | h'
  · simp [h'] at h ⊢; exact h
  · simp [Array.getElem?_eq_none h'] at h
theorem Env.get_mem {d : Nat} {v : Value} : ∀ {E : Env}, E.get d = some v → (d, v) ∈ E
  | [], h => by cases h
  | (k, u) :: E, h => by
    rw [Env.jl] at h
    by_cases e : k = d
    · subst e; simp at h; simp [h]
    · simp only [e, if_false] at h; exact List.mem_cons_of_mem _ (Env.get_mem h)
section
variable {C : Ctx} {l : List Oper} {E0 : Env} {ps : List eR} {ch : List Nat} {Φ : Nat → (Nat → Value) → Prop} {Lk At : Nat → (Nat → Value) → List ad} {AP : List ad → Prop}
def done (listed : Array Bool) (j : Nat) : Prop := listed.getD j false = true
structure Sm (C : Ctx) (l : List Oper) (E0 : Env) (ps : List eR) (ch : List Nat) (Φ : Nat → (Nat → Value) → Prop) (Lk At : Nat → (Nat → Value) → List ad) (AP : List ad → Prop)
    (listed : Array Bool) (a : Act) (w : World) (y : Nat → Value) (A : List ad) (k : Nat) : Prop where
  size : listed.size = l.length
  wa : ∀ i, done listed i → ∀ j ∈ fg ps i, done listed j
  defers : a.defers = C.D
  sR : a.tmps.size = C.n
  Au : ∀ i, done listed i → ∀ t, eV l i = some t → a.tmps[t]? = some (y i)
  AK : ∀ s v, E0.get s = some v → (∀ j, done listed j → eV l j ≠ some s) → a.tmps[s]? = some v
  Ha : ∀ i, done listed i → Φ i y
  ats : ∀ i, done listed i → ∀ B ∈ At i y, B ∈ A
  kle : k ≤ ch.length
  ap : AP A
  kdone : ∀ q c, q < k → ch[q]? = some c → done listed c
  kun : ∀ q c, k ≤ q → ch[q]? = some c → ¬ done listed c
  inv : Inv C.w0 (Lk k y ++ A) w
structure vL (C : Ctx) (l : List Oper) (ps : List eR) (ch : List Nat) (i : Nat) (o : Oper) (p : eR) : Prop where
  SQ : ∀ cs b, o.op ≠ .select cs b
  NV : ∀ j ∈ mw o, j < i
  gB : ∀ j ∈ p.gB, j < i ∧ (j ∈ mw o ∨ ∃ k ∈ mw o, j ∈ fg ps k)
  jB : ∀ j ∈ p.jB, j ∈ p.gB
  l9 : ∀ s ∈ p.l9, ∀ j, eV l j = some s → j = i ∨ i ∈ fg ps j
  lo : ∀ c ∈ ch.take p.lo, c ∈ p.gB
  Sr : p.lo ≤ ch.length
  hi : ∀ c, ch[p.hi]? = some c → c = i ∨ i ∈ fg ps c
  dst : ∀ t, o.dst = some t → t < C.n ∧ ∀ j, j ≠ i → eV l j ≠ some t
  guard : ∀ j w, o.guard = some (j, w) → j ∈ p.jB
theorem rW {i t : Nat} (h : eV l i = some t) : i < l.length := by
  unfold eV at h
  split at h
  · rename_i o ho; exact (List.getElem?_eq_some_iff.1 ho).1
  · cases h
theorem vf {i : Nat} (h : xX C l ps ch i = true) : ∃ o p, l[i]? = some o ∧ ps[i]? = some p ∧ vL C l ps ch i o p := by
  unfold xX at h
  split at h
  · rename_i o p ho hp
    simp only [Bool.and_eq_true] at h
    obtain ⟨⟨⟨⟨⟨⟨⟨⟨⟨h1, h2⟩, h3⟩, h4⟩, h5⟩, h6⟩, h7⟩, h8⟩, h9⟩, h10⟩ := h
    refine ⟨o, p, ho, hp, ?_, ?_, ?_, ?_, ?_, ?_, Nat.le_of_ble_eq_true h7, ?_, ?_, ?_⟩
    · intro cs b e; rw [e] at h1; cases h1
    · intro j hj; exact fU (List.all_eq_true.1 h2 j hj)
    · intro j hj
      have := List.all_eq_true.1 h3 j hj
      simp only [Bool.and_eq_true, Bool.or_eq_true] at this
      refine ⟨fU this.1, ?_⟩
      rcases this.2 with h | h
      · exact .inl (mem_iff.1 h)
      · obtain ⟨k, hk, hk2⟩ := List.any_eq_true.1 h
        exact .inr ⟨k, hk, mem_iff.1 hk2⟩
    · intro j hj; exact mem_iff.1 (List.all_eq_true.1 h4 j hj)
    · intro s hs j hj
      have := List.all_eq_true.1 (List.all_eq_true.1 h5 s hs) j (List.mem_range.2 (rW hj))
      simp only [hj, Bool.or_eq_true] at this
      rcases this with (h | h) | h
      · simp at h
      · exact .inl (Nat.eq_of_beq_eq_true h)
      · exact .inr (mem_iff.1 h)
    · intro c hc; exact mem_iff.1 (List.all_eq_true.1 h6 c hc)
    · intro c hc
      rw [hc] at h8
      simp only [Bool.or_eq_true] at h8
      rcases h8 with h | h
      · exact .inl (Nat.eq_of_beq_eq_true h)
      · exact .inr (mem_iff.1 h)
    · intro t ht
      rw [ht] at h9
      simp only [Bool.and_eq_true] at h9
      refine ⟨fU h9.1, fun j hj e => ?_⟩
      have := List.all_eq_true.1 h9.2 j (List.mem_range.2 (rW e))
      simp only [e, Bool.or_eq_true] at this
      rcases this with h | h
      · exact hj (Nat.eq_of_beq_eq_true h)
      · simp at h
    · intro j w hg
      rw [hg] at h10
      exact mem_iff.1 h10
  · cases h
theorem yz {i : Nat} {o : Oper} {listed : Array Bool} (ho : l[i]? = some o) (hr : i ∈ Region.ready .any l.toArray listed) : listed.getD i true = false ∧ ∀ j ∈ mw o, done listed j := by
  obtain ⟨h1, o', ho', hall⟩ := mem_ready.1 hr
  have : o' = o := by
    have h2 : l[i]? = some o' := by simpa using ho'
    rw [h2] at ho; exact Option.some.inj ho
  subst this
  refine ⟨h1, fun j hj => ?_⟩
  obtain ⟨e, he, hb⟩ := List.mem_filterMap.1 hj
  split at hb
  · rename_i hbind
    cases hb
    exact hall e (by simpa using he) hbind
  · cases hb
end
end Go.Sl
namespace Go.Sl
open Go.RowKit (Below)
def Sp (l : List Oper) (E0 : Env) (p : eR) (V : List Value) : Env :=
  (p.jB.filterMap fun j => match eV l j with | some t => (match V[j]? with | some v => some (t, v) | none => none) | none => none) ++ p.l9.filterMap fun s => match E0.get s with | some v => some (s, v) | none => none
def Ei (l : List Oper) (V : List Value) : Nat → Env → Env
  | 0, E => E
  | i + 1, E => match eV l i with | some t => (match V[i]? with | some v => (t, v) :: Ei l V i E | none => Ei l V i E) | none => Ei l V i E
section
variable {C : Ctx} {E0 : Env} {Q : QT} {L : List ad}
def Qk (l : List Oper) (E0 : Env) (p : eR) (i : Nat) (acc : List Value) : Env :=
  (p.jB.filterMap fun j => match eV l j with | some t => (match acc[i - 1 - j]? with | some v => some (t, v) | none => none) | none => none) ++ p.l9.filterMap fun s => match E0.get s with | some v => some (s, v) | none => none
def EP (l : List Oper) (n : Nat) (acc : List Value) : Nat → Env → Env
  | 0, E => E
  | i + 1, E => match eV l i with | some t => (match acc[n - 1 - i]? with | some v => (t, v) :: EP l n acc i E | none => EP l n acc i E) | none => EP l n acc i E
def Q6 (C : Ctx) (l : List Oper) (E0 : Env) (ch : List Nat) (Ls : List (List ad)) : Nat → List Value → List Oper → List eR → (List Value → Prop) → Prop
  | _, acc, [], [], K => K acc
  | i, acc, o :: os, p :: ps, K => ∃ v, (∀ k L, p.lo ≤ k → k ≤ p.hi → Ls[k]? = some L → Step C l.toArray o (Qk l E0 p i acc) L (fun v' L' => v' = v ∧ (if mem i ch then ∃ L'', Ls[k + 1]? = some L'' ∧ L'.Perm L'' else L'.Perm L))) ∧ Q6 C l E0 ch Ls (i + 1) (v :: acc) os ps K
  | _, _, _, _, _ => False
section
variable {l : List Oper} {ch : List Nat} {Ls : List (List ad)} {i : Nat} {acc : List Value} {o : Oper} {os : List Oper} {ps : List eR} {v : Value} {K : List Value → Prop}
end
end
end Go.Sl
namespace Go.Sl
open Go.RowKit (Below)
theorem an {A : ad} {L : List ad} : A ∈ A :: L := .head _
theorem bW {A B : ad} {L : List ad} : A ∈ B :: A :: L := .tail _ (.head _)
theorem dJ {A B B1 : ad} {L : List ad} : A ∈ B :: B1 :: A :: L := .tail _ bW
theorem eG {A B B1 B2 : ad} {L : List ad} : A ∈ B :: B1 :: B2 :: A :: L := .tail _ dJ
theorem jF {A B B1 B2 B3 : ad} {L : List ad} : A ∈ B :: B1 :: B2 :: B3 :: A :: L := .tail _ eG
theorem O5 {A B B1 B2 B3 B4 : ad} {L : List ad} : A ∈ B :: B1 :: B2 :: B3 :: B4 :: A :: L := .tail _ jF
theorem Nr {A B B1 B2 B3 B4 B5 : ad} {L : List ad} : A ∈ B :: B1 :: B2 :: B3 :: B4 :: B5 :: A :: L := .tail _ O5
theorem te {A B B1 B2 B3 B4 B5 B6 : ad} {L : List ad} : A ∈ B :: B1 :: B2 :: B3 :: B4 :: B5 :: B6 :: A :: L := .tail _ Nr
theorem dQ {A : ad} {L : List ad} : iq (A :: L) A L := .head
theorem ay {A B : ad} {L : List ad} : iq (B :: A :: L) A (B :: L) := .tail .head
theorem bX {A B B1 : ad} {L : List ad} : iq (B :: B1 :: A :: L) A (B :: B1 :: L) := .tail ay
theorem dI {A B B1 B2 : ad} {L : List ad} : iq (B :: B1 :: B2 :: A :: L) A (B :: B1 :: B2 :: L) := .tail bX
theorem ig {A B B1 B2 B3 : ad} {L : List ad} : iq (B :: B1 :: B2 :: B3 :: A :: L) A (B :: B1 :: B2 :: B3 :: L) := .tail dI
theorem kb {A B B1 B2 B3 B4 : ad} {L : List ad} : iq (B :: B1 :: B2 :: B3 :: B4 :: A :: L) A (B :: B1 :: B2 :: B3 :: B4 :: L) := .tail ig
theorem oo {A B B1 B2 B3 B4 B5 : ad} {L : List ad} : iq (B :: B1 :: B2 :: B3 :: B4 :: B5 :: A :: L) A (B :: B1 :: B2 :: B3 :: B4 :: B5 :: L) := .tail kb
theorem Dx {A B B1 B2 B3 B4 B5 B6 : ad} {L : List ad} : iq (B :: B1 :: B2 :: B3 :: B4 :: B5 :: B6 :: A :: L) A (B :: B1 :: B2 :: B3 :: B4 :: B5 :: B6 :: L) := .tail oo
theorem cY {A A' : ad} {L : List ad} : jV (A :: L) A A' (A' :: L) := .head
theorem mh {A A' B : ad} {L : List ad} : jV (B :: A :: L) A A' (B :: A' :: L) := .tail .head
theorem ni {A A' B B1 : ad} {L : List ad} : jV (B :: B1 :: A :: L) A A' (B :: B1 :: A' :: L) := .tail mh
theorem wH {A A' B B1 B2 : ad} {L : List ad} : jV (B :: B1 :: B2 :: A :: L) A A' (B :: B1 :: B2 :: A' :: L) := .tail ni
theorem G4 {A A' B B1 B2 B3 : ad} {L : List ad} : jV (B :: B1 :: B2 :: B3 :: A :: L) A A' (B :: B1 :: B2 :: B3 :: A' :: L) := .tail wH
theorem DP {A A' B B1 B2 B3 B4 : ad} {L : List ad} : jV (B :: B1 :: B2 :: B3 :: B4 :: A :: L) A A' (B :: B1 :: B2 :: B3 :: B4 :: A' :: L) := .tail G4
theorem Pt {A A' B B1 B2 B3 B4 B5 : ad} {L : List ad} : jV (B :: B1 :: B2 :: B3 :: B4 :: B5 :: A :: L) A A' (B :: B1 :: B2 :: B3 :: B4 :: B5 :: A' :: L) := .tail DP
theorem O7 {A A' B B1 B2 B3 B4 B5 B6 : ad} {L : List ad} : jV (B :: B1 :: B2 :: B3 :: B4 :: B5 :: B6 :: A :: L) A A' (B :: B1 :: B2 :: B3 :: B4 :: B5 :: B6 :: A' :: L) := .tail Pt
theorem aw {L : List ad} : Drop L L := .refl
theorem cD {A : ad} {L : List ad} : Drop (A :: L) L := .skip .refl
theorem ie {A B : ad} {L : List ad} : Drop (A :: B :: L) L := .skip cD
theorem n8 {A B B1 : ad} {L : List ad} : Drop (A :: B :: B1 :: L) L := .skip ie
theorem mI {A B B1 B2 : ad} {L : List ad} : Drop (A :: B :: B1 :: B2 :: L) L := .skip n8
theorem Hb {A B B1 B2 B3 : ad} {L : List ad} : Drop (A :: B :: B1 :: B2 :: B3 :: L) L := .skip mI
theorem Pa {A B B1 B2 B3 B4 : ad} {L : List ad} : Drop (A :: B :: B1 :: B2 :: B3 :: B4 :: L) L := .skip Hb
theorem Gu {A B B1 B2 B3 B4 B5 : ad} {L : List ad} : Drop (A :: B :: B1 :: B2 :: B3 :: B4 :: B5 :: L) L := .skip Pa
theorem Cw {A B B1 B2 B3 B4 B5 B6 : ad} {L : List ad} : Drop (A :: B :: B1 :: B2 :: B3 :: B4 :: B5 :: B6 :: L) L := .skip Gu
section
variable {C : Ctx} {Q : QT} {E : Env} {L F : List ad}
theorem bS {c : Code} {M : List ad} (h : Sub L M) (k : Wp C c Q E M) : Wp C c Q E L := fun a w ha hi => k a w ha (h _ _ hi)
theorem vR {ops : Array Oper} {rest : List Oper} {M : List ad} (h : Sub L M) (k : dM C ops rest Q E M) : dM C ops rest Q E L := fun a w ha hi => k a w ha (h _ _ hi)
def Jn {ι : Type} (T : ι → Env) (G : ι → List ad) (K : ι → Prop) (E : Env) (L : List ad) : Prop := ∃ i, K i ∧ Le (T i) E ∧ Sub L (G i)
theorem mU {ι : Type} {c : Code} (T : ι → Env) (G : ι → List ad) (K : ι → Prop) (μ : ι → Nat) (h0 : Jn T G K E L)
    (h : ∀ i, K i → Wp C c (iI (fun E' L' => Jn T G (fun j => K j ∧ μ j < μ i) E' L') Q) (T i) (G i)) : Wp C (.loop c) Q E L := by
  obtain ⟨i0, k0, e0, l0⟩ := h0
  refine bS l0 (cu (T i0) e0 ?_)
  refine Kq (fun m E L => ∃ i, K i ∧ μ i = m ∧ E = T i ∧ L = G i) (μ i0) ⟨i0, k0, rfl, rfl, rfl⟩ ?_
  rintro m E L ⟨i, ki, rfl, rfl, rfl⟩
  intro a w ha hi
  refine Code.wp_mono ?_ (h i ki a w ha hi)
  rintro e a' w' ⟨E', L', h1, h2, h3⟩
  cases e with
  | normal =>
    obtain ⟨j, ⟨kj, hlt⟩, hE, hL⟩ := h3
    exact ⟨T j, G j, h1.le hE, hL _ _ h2, μ j, hlt, j, kj, rfl, rfl, rfl⟩
  | exit _ => exact ⟨E', L', h1, h2, h3⟩
  | goto _ => exact ⟨E', L', h1, h2, h3⟩
  | ret => exact ⟨E', L', h1, h2, h3⟩
  | panic _ => exact ⟨E', L', h1, h2, h3⟩
  | outgrown => exact ⟨E', L', h1, h2, h3⟩
theorem uP {ι : Type} {x y : Code} (T : ι → Env) (G : ι → List ad) (K : ι → Prop) (h : Wp C x (iI (fun E' L' => Jn T G K E' L') Q) E L)
    (k : ∀ i, K i → Wp C y Q (T i) (G i)) : Wp C (.seq x y) Q E L := by
  refine jN (h.mono ?_)
  intro e E' L' hq
  cases e with
  | normal =>
    obtain ⟨i, ki, hE, hL⟩ := hq
    exact bS hL (cu _ hE (k i ki))
  | exit _ => exact hq
  | goto _ => exact hq
  | ret => exact hq
  | panic _ => exact hq
  | outgrown => exact hq
def J1 {α0 : Type} (T : α0 → Env) (G : α0 → List ad) (K : α0 → Prop) (E : Env) (L : List ad) : Prop := ∃ (y0 : α0), K y0 ∧ Le (T y0) E ∧ Sub L (G y0)
theorem J1.jn {α0 : Type} {T : α0 → Env} {G : α0 → List ad} {K : α0 → Prop} {E : Env} {L : List ad} (h : J1 T G K E L) : Jn (fun i : α0 => T i) (fun i : α0 => G i) (fun i : α0 => K i) E L :=
  let ⟨y0, h1, h2, h3⟩ := h; ⟨y0, h1, h2, h3⟩
theorem i1 {α0 : Type} {T : α0 → Env} {G : α0 → List ad} {K : α0 → Prop} {E : Env} {L : List ad} (y0 : α0) (h1 : K y0) (h2 : Le (T y0) E) (h3 : Sub L (G y0)) : J1 T G K E L := ⟨y0, h1, h2, h3⟩
theorem j1 {α0 : Type} {T : α0 → Env} {G : α0 → List ad} {K : α0 → Prop} {E : Env} {L : List ad} (y0 : α0) (h1 : K y0) (h2 : Le (T y0) E) (h3 : Sub L (G y0)) : iI (fun E' L' => J1 T G K E' L') Q .normal E L := ⟨y0, h1, h2, h3⟩
theorem eb {α0 : Type} {c : Code} (T : α0 → Env) (G : α0 → List ad) (K : α0 → Prop) (μ : α0 → Nat) (h0 : J1 T G K E L)
    (h : ∀ (x0 : α0), K x0 → Wp C c (iI (fun E' L' => J1 T G (fun y0 => K y0 ∧ μ y0 < μ x0) E' L') Q) (T x0) (G x0)) : Wp C (.loop c) Q E L :=
  mU (fun i : α0 => T i) (fun i : α0 => G i) (fun i : α0 => K i) (fun i : α0 => μ i) h0.jn fun i ki => (h i ki).mono fun e E' L' hq => by
    cases e with
    | normal => exact J1.jn hq
    | exit _ => exact hq
    | goto _ => exact hq
    | ret => exact hq
    | panic _ => exact hq
    | outgrown => exact hq
theorem mS {α0 : Type} {x y : Code} (T : α0 → Env) (G : α0 → List ad) (K : α0 → Prop) (h : Wp C x (iI (fun E' L' => J1 T G K E' L') Q) E L)
    (k : ∀ (x0 : α0), K x0 → Wp C y Q (T x0) (G x0)) : Wp C (.seq x y) Q E L :=
  uP (fun i : α0 => T i) (fun i : α0 => G i) (fun i : α0 => K i) (h.mono fun e E' L' hq => by
    cases e with
    | normal => exact J1.jn hq
    | exit _ => exact hq
    | goto _ => exact hq
    | ret => exact hq
    | panic _ => exact hq
    | outgrown => exact hq) fun i ki => k i ki
def J2 {α0 α1 : Type} (T : α0 → α1 → Env) (G : α0 → α1 → List ad) (K : α0 → α1 → Prop) (E : Env) (L : List ad) : Prop := ∃ (y0 : α0) (y1 : α1), K y0 y1 ∧ Le (T y0 y1) E ∧ Sub L (G y0 y1)
theorem J2.jn {α0 α1 : Type} {T : α0 → α1 → Env} {G : α0 → α1 → List ad} {K : α0 → α1 → Prop} {E : Env} {L : List ad} (h : J2 T G K E L) : Jn (fun i : α0 × α1 => T i.1 i.2) (fun i : α0 × α1 => G i.1 i.2) (fun i : α0 × α1 => K i.1 i.2) E L :=
  let ⟨y0, y1, h1, h2, h3⟩ := h; ⟨⟨y0, y1⟩, h1, h2, h3⟩
theorem i2 {α0 α1 : Type} {T : α0 → α1 → Env} {G : α0 → α1 → List ad} {K : α0 → α1 → Prop} {E : Env} {L : List ad} (y0 : α0) (y1 : α1) (h1 : K y0 y1) (h2 : Le (T y0 y1) E) (h3 : Sub L (G y0 y1)) : J2 T G K E L := ⟨y0, y1, h1, h2, h3⟩
theorem j2 {α0 α1 : Type} {T : α0 → α1 → Env} {G : α0 → α1 → List ad} {K : α0 → α1 → Prop} {E : Env} {L : List ad} (y0 : α0) (y1 : α1) (h1 : K y0 y1) (h2 : Le (T y0 y1) E) (h3 : Sub L (G y0 y1)) : iI (fun E' L' => J2 T G K E' L') Q .normal E L := ⟨y0, y1, h1, h2, h3⟩
theorem il {α0 α1 : Type} {c : Code} (T : α0 → α1 → Env) (G : α0 → α1 → List ad) (K : α0 → α1 → Prop) (μ : α0 → α1 → Nat) (h0 : J2 T G K E L)
    (h : ∀ (x0 : α0) (x1 : α1), K x0 x1 → Wp C c (iI (fun E' L' => J2 T G (fun y0 y1 => K y0 y1 ∧ μ y0 y1 < μ x0 x1) E' L') Q) (T x0 x1) (G x0 x1)) : Wp C (.loop c) Q E L :=
  mU (fun i : α0 × α1 => T i.1 i.2) (fun i : α0 × α1 => G i.1 i.2) (fun i : α0 × α1 => K i.1 i.2) (fun i : α0 × α1 => μ i.1 i.2) h0.jn fun i ki => (h i.1 i.2 ki).mono fun e E' L' hq => by
    cases e with
    | normal => exact J2.jn hq
    | exit _ => exact hq
    | goto _ => exact hq
    | ret => exact hq
    | panic _ => exact hq
    | outgrown => exact hq
theorem zW {α0 α1 : Type} {x y : Code} (T : α0 → α1 → Env) (G : α0 → α1 → List ad) (K : α0 → α1 → Prop) (h : Wp C x (iI (fun E' L' => J2 T G K E' L') Q) E L)
    (k : ∀ (x0 : α0) (x1 : α1), K x0 x1 → Wp C y Q (T x0 x1) (G x0 x1)) : Wp C (.seq x y) Q E L :=
  uP (fun i : α0 × α1 => T i.1 i.2) (fun i : α0 × α1 => G i.1 i.2) (fun i : α0 × α1 => K i.1 i.2) (h.mono fun e E' L' hq => by
    cases e with
    | normal => exact J2.jn hq
    | exit _ => exact hq
    | goto _ => exact hq
    | ret => exact hq
    | panic _ => exact hq
    | outgrown => exact hq) fun i ki => k i.1 i.2 ki
def J3 {α0 α1 α2 : Type} (T : α0 → α1 → α2 → Env) (G : α0 → α1 → α2 → List ad) (K : α0 → α1 → α2 → Prop) (E : Env) (L : List ad) : Prop := ∃ (y0 : α0) (y1 : α1) (y2 : α2), K y0 y1 y2 ∧ Le (T y0 y1 y2) E ∧ Sub L (G y0 y1 y2)
theorem J3.jn {α0 α1 α2 : Type} {T : α0 → α1 → α2 → Env} {G : α0 → α1 → α2 → List ad} {K : α0 → α1 → α2 → Prop} {E : Env} {L : List ad} (h : J3 T G K E L) : Jn (fun i : α0 × α1 × α2 => T i.1 i.2.1 i.2.2) (fun i : α0 × α1 × α2 => G i.1 i.2.1 i.2.2) (fun i : α0 × α1 × α2 => K i.1 i.2.1 i.2.2) E L :=
  let ⟨y0, y1, y2, h1, h2, h3⟩ := h; ⟨⟨y0, y1, y2⟩, h1, h2, h3⟩
theorem i3 {α0 α1 α2 : Type} {T : α0 → α1 → α2 → Env} {G : α0 → α1 → α2 → List ad} {K : α0 → α1 → α2 → Prop} {E : Env} {L : List ad} (y0 : α0) (y1 : α1) (y2 : α2) (h1 : K y0 y1 y2) (h2 : Le (T y0 y1 y2) E) (h3 : Sub L (G y0 y1 y2)) : J3 T G K E L := ⟨y0, y1, y2, h1, h2, h3⟩
theorem j3 {α0 α1 α2 : Type} {T : α0 → α1 → α2 → Env} {G : α0 → α1 → α2 → List ad} {K : α0 → α1 → α2 → Prop} {E : Env} {L : List ad} (y0 : α0) (y1 : α1) (y2 : α2) (h1 : K y0 y1 y2) (h2 : Le (T y0 y1 y2) E) (h3 : Sub L (G y0 y1 y2)) : iI (fun E' L' => J3 T G K E' L') Q .normal E L := ⟨y0, y1, y2, h1, h2, h3⟩
theorem iR {α0 α1 α2 : Type} {c : Code} (T : α0 → α1 → α2 → Env) (G : α0 → α1 → α2 → List ad) (K : α0 → α1 → α2 → Prop) (μ : α0 → α1 → α2 → Nat) (h0 : J3 T G K E L)
    (h : ∀ (x0 : α0) (x1 : α1) (x2 : α2), K x0 x1 x2 → Wp C c (iI (fun E' L' => J3 T G (fun y0 y1 y2 => K y0 y1 y2 ∧ μ y0 y1 y2 < μ x0 x1 x2) E' L') Q) (T x0 x1 x2) (G x0 x1 x2)) : Wp C (.loop c) Q E L :=
  mU (fun i : α0 × α1 × α2 => T i.1 i.2.1 i.2.2) (fun i : α0 × α1 × α2 => G i.1 i.2.1 i.2.2) (fun i : α0 × α1 × α2 => K i.1 i.2.1 i.2.2) (fun i : α0 × α1 × α2 => μ i.1 i.2.1 i.2.2) h0.jn fun i ki => (h i.1 i.2.1 i.2.2 ki).mono fun e E' L' hq => by
    cases e with
    | normal => exact J3.jn hq
    | exit _ => exact hq
    | goto _ => exact hq
    | ret => exact hq
    | panic _ => exact hq
    | outgrown => exact hq
def J4 {α0 α1 α2 α3 : Type} (T : α0 → α1 → α2 → α3 → Env) (G : α0 → α1 → α2 → α3 → List ad) (K : α0 → α1 → α2 → α3 → Prop) (E : Env) (L : List ad) : Prop := ∃ (y0 : α0) (y1 : α1) (y2 : α2) (y3 : α3), K y0 y1 y2 y3 ∧ Le (T y0 y1 y2 y3) E ∧ Sub L (G y0 y1 y2 y3)
theorem J4.jn {α0 α1 α2 α3 : Type} {T : α0 → α1 → α2 → α3 → Env} {G : α0 → α1 → α2 → α3 → List ad} {K : α0 → α1 → α2 → α3 → Prop} {E : Env} {L : List ad} (h : J4 T G K E L) : Jn (fun i : α0 × α1 × α2 × α3 => T i.1 i.2.1 i.2.2.1 i.2.2.2) (fun i : α0 × α1 × α2 × α3 => G i.1 i.2.1 i.2.2.1 i.2.2.2) (fun i : α0 × α1 × α2 × α3 => K i.1 i.2.1 i.2.2.1 i.2.2.2) E L :=
  let ⟨y0, y1, y2, y3, h1, h2, h3⟩ := h; ⟨⟨y0, y1, y2, y3⟩, h1, h2, h3⟩
theorem i4 {α0 α1 α2 α3 : Type} {T : α0 → α1 → α2 → α3 → Env} {G : α0 → α1 → α2 → α3 → List ad} {K : α0 → α1 → α2 → α3 → Prop} {E : Env} {L : List ad} (y0 : α0) (y1 : α1) (y2 : α2) (y3 : α3) (h1 : K y0 y1 y2 y3) (h2 : Le (T y0 y1 y2 y3) E) (h3 : Sub L (G y0 y1 y2 y3)) : J4 T G K E L := ⟨y0, y1, y2, y3, h1, h2, h3⟩
theorem j4 {α0 α1 α2 α3 : Type} {T : α0 → α1 → α2 → α3 → Env} {G : α0 → α1 → α2 → α3 → List ad} {K : α0 → α1 → α2 → α3 → Prop} {E : Env} {L : List ad} (y0 : α0) (y1 : α1) (y2 : α2) (y3 : α3) (h1 : K y0 y1 y2 y3) (h2 : Le (T y0 y1 y2 y3) E) (h3 : Sub L (G y0 y1 y2 y3)) : iI (fun E' L' => J4 T G K E' L') Q .normal E L := ⟨y0, y1, y2, y3, h1, h2, h3⟩
theorem I6 {α0 α1 α2 α3 : Type} {c : Code} (T : α0 → α1 → α2 → α3 → Env) (G : α0 → α1 → α2 → α3 → List ad) (K : α0 → α1 → α2 → α3 → Prop) (μ : α0 → α1 → α2 → α3 → Nat) (h0 : J4 T G K E L)
    (h : ∀ (x0 : α0) (x1 : α1) (x2 : α2) (x3 : α3), K x0 x1 x2 x3 → Wp C c (iI (fun E' L' => J4 T G (fun y0 y1 y2 y3 => K y0 y1 y2 y3 ∧ μ y0 y1 y2 y3 < μ x0 x1 x2 x3) E' L') Q) (T x0 x1 x2 x3) (G x0 x1 x2 x3)) : Wp C (.loop c) Q E L :=
  mU (fun i : α0 × α1 × α2 × α3 => T i.1 i.2.1 i.2.2.1 i.2.2.2) (fun i : α0 × α1 × α2 × α3 => G i.1 i.2.1 i.2.2.1 i.2.2.2) (fun i : α0 × α1 × α2 × α3 => K i.1 i.2.1 i.2.2.1 i.2.2.2) (fun i : α0 × α1 × α2 × α3 => μ i.1 i.2.1 i.2.2.1 i.2.2.2) h0.jn fun i ki => (h i.1 i.2.1 i.2.2.1 i.2.2.2 ki).mono fun e E' L' hq => by
    cases e with
    | normal => exact J4.jn hq
    | exit _ => exact hq
    | goto _ => exact hq
    | ret => exact hq
    | panic _ => exact hq
    | outgrown => exact hq
def J5 {α0 α1 α2 α3 α4 : Type} (T : α0 → α1 → α2 → α3 → α4 → Env) (G : α0 → α1 → α2 → α3 → α4 → List ad) (K : α0 → α1 → α2 → α3 → α4 → Prop) (E : Env) (L : List ad) : Prop := ∃ (y0 : α0) (y1 : α1) (y2 : α2) (y3 : α3) (y4 : α4), K y0 y1 y2 y3 y4 ∧ Le (T y0 y1 y2 y3 y4) E ∧ Sub L (G y0 y1 y2 y3 y4)
theorem J5.jn {α0 α1 α2 α3 α4 : Type} {T : α0 → α1 → α2 → α3 → α4 → Env} {G : α0 → α1 → α2 → α3 → α4 → List ad} {K : α0 → α1 → α2 → α3 → α4 → Prop} {E : Env} {L : List ad} (h : J5 T G K E L) : Jn (fun i : α0 × α1 × α2 × α3 × α4 => T i.1 i.2.1 i.2.2.1 i.2.2.2.1 i.2.2.2.2) (fun i : α0 × α1 × α2 × α3 × α4 => G i.1 i.2.1 i.2.2.1 i.2.2.2.1 i.2.2.2.2) (fun i : α0 × α1 × α2 × α3 × α4 => K i.1 i.2.1 i.2.2.1 i.2.2.2.1 i.2.2.2.2) E L :=
  let ⟨y0, y1, y2, y3, y4, h1, h2, h3⟩ := h; ⟨⟨y0, y1, y2, y3, y4⟩, h1, h2, h3⟩
theorem i5 {α0 α1 α2 α3 α4 : Type} {T : α0 → α1 → α2 → α3 → α4 → Env} {G : α0 → α1 → α2 → α3 → α4 → List ad} {K : α0 → α1 → α2 → α3 → α4 → Prop} {E : Env} {L : List ad} (y0 : α0) (y1 : α1) (y2 : α2) (y3 : α3) (y4 : α4) (h1 : K y0 y1 y2 y3 y4) (h2 : Le (T y0 y1 y2 y3 y4) E) (h3 : Sub L (G y0 y1 y2 y3 y4)) : J5 T G K E L := ⟨y0, y1, y2, y3, y4, h1, h2, h3⟩
theorem j5 {α0 α1 α2 α3 α4 : Type} {T : α0 → α1 → α2 → α3 → α4 → Env} {G : α0 → α1 → α2 → α3 → α4 → List ad} {K : α0 → α1 → α2 → α3 → α4 → Prop} {E : Env} {L : List ad} (y0 : α0) (y1 : α1) (y2 : α2) (y3 : α3) (y4 : α4) (h1 : K y0 y1 y2 y3 y4) (h2 : Le (T y0 y1 y2 y3 y4) E) (h3 : Sub L (G y0 y1 y2 y3 y4)) : iI (fun E' L' => J5 T G K E' L') Q .normal E L := ⟨y0, y1, y2, y3, y4, h1, h2, h3⟩
theorem zG {α0 α1 α2 α3 α4 : Type} {c : Code} (T : α0 → α1 → α2 → α3 → α4 → Env) (G : α0 → α1 → α2 → α3 → α4 → List ad) (K : α0 → α1 → α2 → α3 → α4 → Prop) (μ : α0 → α1 → α2 → α3 → α4 → Nat) (h0 : J5 T G K E L)
    (h : ∀ (x0 : α0) (x1 : α1) (x2 : α2) (x3 : α3) (x4 : α4), K x0 x1 x2 x3 x4 → Wp C c (iI (fun E' L' => J5 T G (fun y0 y1 y2 y3 y4 => K y0 y1 y2 y3 y4 ∧ μ y0 y1 y2 y3 y4 < μ x0 x1 x2 x3 x4) E' L') Q) (T x0 x1 x2 x3 x4) (G x0 x1 x2 x3 x4)) : Wp C (.loop c) Q E L :=
  mU (fun i : α0 × α1 × α2 × α3 × α4 => T i.1 i.2.1 i.2.2.1 i.2.2.2.1 i.2.2.2.2) (fun i : α0 × α1 × α2 × α3 × α4 => G i.1 i.2.1 i.2.2.1 i.2.2.2.1 i.2.2.2.2) (fun i : α0 × α1 × α2 × α3 × α4 => K i.1 i.2.1 i.2.2.1 i.2.2.2.1 i.2.2.2.2) (fun i : α0 × α1 × α2 × α3 × α4 => μ i.1 i.2.1 i.2.2.1 i.2.2.2.1 i.2.2.2.2) h0.jn fun i ki => (h i.1 i.2.1 i.2.2.1 i.2.2.2.1 i.2.2.2.2 ki).mono fun e E' L' hq => by
    cases e with
    | normal => exact J5.jn hq
    | exit _ => exact hq
    | goto _ => exact hq
    | ret => exact hq
    | panic _ => exact hq
    | outgrown => exact hq
def J6 {α0 α1 α2 α3 α4 α5 : Type} (T : α0 → α1 → α2 → α3 → α4 → α5 → Env) (G : α0 → α1 → α2 → α3 → α4 → α5 → List ad) (K : α0 → α1 → α2 → α3 → α4 → α5 → Prop) (E : Env) (L : List ad) : Prop := ∃ (y0 : α0) (y1 : α1) (y2 : α2) (y3 : α3) (y4 : α4) (y5 : α5), K y0 y1 y2 y3 y4 y5 ∧ Le (T y0 y1 y2 y3 y4 y5) E ∧ Sub L (G y0 y1 y2 y3 y4 y5)
def J7 {α0 α1 α2 α3 α4 α5 α6 : Type} (T : α0 → α1 → α2 → α3 → α4 → α5 → α6 → Env) (G : α0 → α1 → α2 → α3 → α4 → α5 → α6 → List ad) (K : α0 → α1 → α2 → α3 → α4 → α5 → α6 → Prop) (E : Env) (L : List ad) : Prop := ∃ (y0 : α0) (y1 : α1) (y2 : α2) (y3 : α3) (y4 : α4) (y5 : α5) (y6 : α6), K y0 y1 y2 y3 y4 y5 y6 ∧ Le (T y0 y1 y2 y3 y4 y5 y6) E ∧ Sub L (G y0 y1 y2 y3 y4 y5 y6)
theorem J7.jn {α0 α1 α2 α3 α4 α5 α6 : Type} {T : α0 → α1 → α2 → α3 → α4 → α5 → α6 → Env} {G : α0 → α1 → α2 → α3 → α4 → α5 → α6 → List ad} {K : α0 → α1 → α2 → α3 → α4 → α5 → α6 → Prop} {E : Env} {L : List ad} (h : J7 T G K E L) : Jn (fun i : α0 × α1 × α2 × α3 × α4 × α5 × α6 => T i.1 i.2.1 i.2.2.1 i.2.2.2.1 i.2.2.2.2.1 i.2.2.2.2.2.1 i.2.2.2.2.2.2) (fun i : α0 × α1 × α2 × α3 × α4 × α5 × α6 => G i.1 i.2.1 i.2.2.1 i.2.2.2.1 i.2.2.2.2.1 i.2.2.2.2.2.1 i.2.2.2.2.2.2) (fun i : α0 × α1 × α2 × α3 × α4 × α5 × α6 => K i.1 i.2.1 i.2.2.1 i.2.2.2.1 i.2.2.2.2.1 i.2.2.2.2.2.1 i.2.2.2.2.2.2) E L :=
  let ⟨y0, y1, y2, y3, y4, y5, y6, h1, h2, h3⟩ := h; ⟨⟨y0, y1, y2, y3, y4, y5, y6⟩, h1, h2, h3⟩
theorem i7 {α0 α1 α2 α3 α4 α5 α6 : Type} {T : α0 → α1 → α2 → α3 → α4 → α5 → α6 → Env} {G : α0 → α1 → α2 → α3 → α4 → α5 → α6 → List ad} {K : α0 → α1 → α2 → α3 → α4 → α5 → α6 → Prop} {E : Env} {L : List ad} (y0 : α0) (y1 : α1) (y2 : α2) (y3 : α3) (y4 : α4) (y5 : α5) (y6 : α6) (h1 : K y0 y1 y2 y3 y4 y5 y6) (h2 : Le (T y0 y1 y2 y3 y4 y5 y6) E) (h3 : Sub L (G y0 y1 y2 y3 y4 y5 y6)) : J7 T G K E L := ⟨y0, y1, y2, y3, y4, y5, y6, h1, h2, h3⟩
theorem j7 {α0 α1 α2 α3 α4 α5 α6 : Type} {T : α0 → α1 → α2 → α3 → α4 → α5 → α6 → Env} {G : α0 → α1 → α2 → α3 → α4 → α5 → α6 → List ad} {K : α0 → α1 → α2 → α3 → α4 → α5 → α6 → Prop} {E : Env} {L : List ad} (y0 : α0) (y1 : α1) (y2 : α2) (y3 : α3) (y4 : α4) (y5 : α5) (y6 : α6) (h1 : K y0 y1 y2 y3 y4 y5 y6) (h2 : Le (T y0 y1 y2 y3 y4 y5 y6) E) (h3 : Sub L (G y0 y1 y2 y3 y4 y5 y6)) : iI (fun E' L' => J7 T G K E' L') Q .normal E L := ⟨y0, y1, y2, y3, y4, y5, y6, h1, h2, h3⟩
theorem zA {α0 α1 α2 α3 α4 α5 α6 : Type} {c : Code} (T : α0 → α1 → α2 → α3 → α4 → α5 → α6 → Env) (G : α0 → α1 → α2 → α3 → α4 → α5 → α6 → List ad) (K : α0 → α1 → α2 → α3 → α4 → α5 → α6 → Prop) (μ : α0 → α1 → α2 → α3 → α4 → α5 → α6 → Nat) (h0 : J7 T G K E L)
    (h : ∀ (x0 : α0) (x1 : α1) (x2 : α2) (x3 : α3) (x4 : α4) (x5 : α5) (x6 : α6), K x0 x1 x2 x3 x4 x5 x6 → Wp C c (iI (fun E' L' => J7 T G (fun y0 y1 y2 y3 y4 y5 y6 => K y0 y1 y2 y3 y4 y5 y6 ∧ μ y0 y1 y2 y3 y4 y5 y6 < μ x0 x1 x2 x3 x4 x5 x6) E' L') Q) (T x0 x1 x2 x3 x4 x5 x6) (G x0 x1 x2 x3 x4 x5 x6)) : Wp C (.loop c) Q E L :=
  mU (fun i : α0 × α1 × α2 × α3 × α4 × α5 × α6 => T i.1 i.2.1 i.2.2.1 i.2.2.2.1 i.2.2.2.2.1 i.2.2.2.2.2.1 i.2.2.2.2.2.2) (fun i : α0 × α1 × α2 × α3 × α4 × α5 × α6 => G i.1 i.2.1 i.2.2.1 i.2.2.2.1 i.2.2.2.2.1 i.2.2.2.2.2.1 i.2.2.2.2.2.2) (fun i : α0 × α1 × α2 × α3 × α4 × α5 × α6 => K i.1 i.2.1 i.2.2.1 i.2.2.2.1 i.2.2.2.2.1 i.2.2.2.2.2.1 i.2.2.2.2.2.2) (fun i : α0 × α1 × α2 × α3 × α4 × α5 × α6 => μ i.1 i.2.1 i.2.2.1 i.2.2.2.1 i.2.2.2.2.1 i.2.2.2.2.2.1 i.2.2.2.2.2.2) h0.jn fun i ki => (h i.1 i.2.1 i.2.2.1 i.2.2.2.1 i.2.2.2.2.1 i.2.2.2.2.2.1 i.2.2.2.2.2.2 ki).mono fun e E' L' hq => by
    cases e with
    | normal => exact J7.jn hq
    | exit _ => exact hq
    | goto _ => exact hq
    | ret => exact hq
    | panic _ => exact hq
    | outgrown => exact hq
def J8 {α0 α1 α2 α3 α4 α5 α6 α7 : Type} (T : α0 → α1 → α2 → α3 → α4 → α5 → α6 → α7 → Env) (G : α0 → α1 → α2 → α3 → α4 → α5 → α6 → α7 → List ad) (K : α0 → α1 → α2 → α3 → α4 → α5 → α6 → α7 → Prop) (E : Env) (L : List ad) : Prop := ∃ (y0 : α0) (y1 : α1) (y2 : α2) (y3 : α3) (y4 : α4) (y5 : α5) (y6 : α6) (y7 : α7), K y0 y1 y2 y3 y4 y5 y6 y7 ∧ Le (T y0 y1 y2 y3 y4 y5 y6 y7) E ∧ Sub L (G y0 y1 y2 y3 y4 y5 y6 y7)
theorem J8.jn {α0 α1 α2 α3 α4 α5 α6 α7 : Type} {T : α0 → α1 → α2 → α3 → α4 → α5 → α6 → α7 → Env} {G : α0 → α1 → α2 → α3 → α4 → α5 → α6 → α7 → List ad} {K : α0 → α1 → α2 → α3 → α4 → α5 → α6 → α7 → Prop} {E : Env} {L : List ad} (h : J8 T G K E L) : Jn (fun i : α0 × α1 × α2 × α3 × α4 × α5 × α6 × α7 => T i.1 i.2.1 i.2.2.1 i.2.2.2.1 i.2.2.2.2.1 i.2.2.2.2.2.1 i.2.2.2.2.2.2.1 i.2.2.2.2.2.2.2) (fun i : α0 × α1 × α2 × α3 × α4 × α5 × α6 × α7 => G i.1 i.2.1 i.2.2.1 i.2.2.2.1 i.2.2.2.2.1 i.2.2.2.2.2.1 i.2.2.2.2.2.2.1 i.2.2.2.2.2.2.2) (fun i : α0 × α1 × α2 × α3 × α4 × α5 × α6 × α7 => K i.1 i.2.1 i.2.2.1 i.2.2.2.1 i.2.2.2.2.1 i.2.2.2.2.2.1 i.2.2.2.2.2.2.1 i.2.2.2.2.2.2.2) E L :=
  let ⟨y0, y1, y2, y3, y4, y5, y6, y7, h1, h2, h3⟩ := h; ⟨⟨y0, y1, y2, y3, y4, y5, y6, y7⟩, h1, h2, h3⟩
theorem j8 {α0 α1 α2 α3 α4 α5 α6 α7 : Type} {T : α0 → α1 → α2 → α3 → α4 → α5 → α6 → α7 → Env} {G : α0 → α1 → α2 → α3 → α4 → α5 → α6 → α7 → List ad} {K : α0 → α1 → α2 → α3 → α4 → α5 → α6 → α7 → Prop} {E : Env} {L : List ad} (y0 : α0) (y1 : α1) (y2 : α2) (y3 : α3) (y4 : α4) (y5 : α5) (y6 : α6) (y7 : α7) (h1 : K y0 y1 y2 y3 y4 y5 y6 y7) (h2 : Le (T y0 y1 y2 y3 y4 y5 y6 y7) E) (h3 : Sub L (G y0 y1 y2 y3 y4 y5 y6 y7)) : iI (fun E' L' => J8 T G K E' L') Q .normal E L := ⟨y0, y1, y2, y3, y4, y5, y6, y7, h1, h2, h3⟩
theorem Ip {α0 α1 α2 α3 α4 α5 α6 α7 : Type} {x y : Code} (T : α0 → α1 → α2 → α3 → α4 → α5 → α6 → α7 → Env) (G : α0 → α1 → α2 → α3 → α4 → α5 → α6 → α7 → List ad) (K : α0 → α1 → α2 → α3 → α4 → α5 → α6 → α7 → Prop) (h : Wp C x (iI (fun E' L' => J8 T G K E' L') Q) E L)
    (k : ∀ (x0 : α0) (x1 : α1) (x2 : α2) (x3 : α3) (x4 : α4) (x5 : α5) (x6 : α6) (x7 : α7), K x0 x1 x2 x3 x4 x5 x6 x7 → Wp C y Q (T x0 x1 x2 x3 x4 x5 x6 x7) (G x0 x1 x2 x3 x4 x5 x6 x7)) : Wp C (.seq x y) Q E L :=
  uP (fun i : α0 × α1 × α2 × α3 × α4 × α5 × α6 × α7 => T i.1 i.2.1 i.2.2.1 i.2.2.2.1 i.2.2.2.2.1 i.2.2.2.2.2.1 i.2.2.2.2.2.2.1 i.2.2.2.2.2.2.2) (fun i : α0 × α1 × α2 × α3 × α4 × α5 × α6 × α7 => G i.1 i.2.1 i.2.2.1 i.2.2.2.1 i.2.2.2.2.1 i.2.2.2.2.2.1 i.2.2.2.2.2.2.1 i.2.2.2.2.2.2.2) (fun i : α0 × α1 × α2 × α3 × α4 × α5 × α6 × α7 => K i.1 i.2.1 i.2.2.1 i.2.2.2.1 i.2.2.2.2.1 i.2.2.2.2.2.1 i.2.2.2.2.2.2.1 i.2.2.2.2.2.2.2) (h.mono fun e E' L' hq => by
    cases e with
    | normal => exact J8.jn hq
    | exit _ => exact hq
    | goto _ => exact hq
    | ret => exact hq
    | panic _ => exact hq
    | outgrown => exact hq) fun i ki => k i.1 i.2.1 i.2.2.1 i.2.2.2.1 i.2.2.2.2.1 i.2.2.2.2.2.1 i.2.2.2.2.2.2.1 i.2.2.2.2.2.2.2 ki
theorem He {k : Env → List ad → Prop} {i : Nat} (h : Q (.exit i) E L) : iI k Q (.exit i) E L := h
theorem GP {k : Env → List ad → Prop} (h : Q .ret E L) : iI k Q .ret E L := h
theorem dZ {k : Env → List ad → Prop} {ch : List PanicEntry} (h : Q (.panic ch) E L) : iI k Q (.panic ch) E L := h
theorem kC {i : Nat} (h : Q .normal E L) : lL i Q .normal E L := h
theorem ND {i : Nat} (h : Q .ret E L) : lL i Q .ret E L := h
theorem fC {i : Nat} {ch : List PanicEntry} (h : Q (.panic ch) E L) : lL i Q (.panic ch) E L := h
theorem OE {i : Nat} (h : Q .normal E L) : lL i Q (.exit i) E L := by simp [lL, h]
theorem Oa {i j : Nat} (hn : Nat.beq j i = false) (h : Q (.exit j) E L) : lL i Q (.exit j) E L := by simp only [lL, hn, cond_false]; exact h
section
variable {L' : List ad} {ty : TypeId} {op : Op} {v : Value}
theorem aW {p : Prop} [Decidable p] (h : cF C op ty E L (.bool (decide p)) L') (hp : p) : cF C op ty E L (.bool true) L' := by
  rw [decide_eq_true hp] at h; exact h
theorem aA {p : Prop} [Decidable p] (h : cF C op ty E L (.bool (decide p)) L') (hp : ¬ p) : cF C op ty E L (.bool false) L' := by
  rw [decide_eq_false hp] at h; exact h
theorem cK {u : Value} (h : cF C op ty E L u L') (e : u = v) : cF C op ty E L v L' := e ▸ h
theorem AU {fn : Fn} {fl cl : List Operand} {fs cs : List Value} (hf : iL E fl = some fs) (hc : iL E cl = some cs) : cF C (.makeFunc fn fl.toArray cl.toArray) ty E L (.func fn fs.toArray cs.toArray) L := dS fun d pos aft g a w ha => by
  simp only [execOp, Instr.makeFunc, ha.iL hf, ha.iL hc]
  rfl
theorem jQ {x : Operand} {hi mx : Option Operand} {t e sz cJ n cap : Nat} {p : Option Addr} (r m : Nat) (ht : sliceB C.P t = some (e, sz, cJ)) (hx : aq E x = some (.slice p n cap))
    (hr : match hi with | none => r = n ∧ mx = none | some z => ∃ k, aq E z = some (.int k (r : Int)))
    (hm : match mx with | none => m = cap | some z => ∃ k, aq E z = some (.int k (m : Int)))
    (h2 : r ≤ m) (h3 : m ≤ cap) : cF C (.slice t x none hi mx) ty E L (.slice p r m) L := by
  have := dX (C := C) (E := E) (L := L) (ty := ty) (lo := none) 0 r m ht hx rfl hr hm (Nat.zero_le _) h2 h3
  rwa [nU, Nat.sub_zero, Nat.sub_zero] at this
end
end
end Go.Sl
namespace Go.Sl
open Go.RowKit (Below)
abbrev Yv := Nat → Value
def uA (l : List Oper) (E0 : Env) (p : eR) (V : List (Yv → Value)) (y : Yv) : Env :=
  (p.jB.filterMap fun j => match eV l j with | some t => (match V[j]? with | some f => some (t, f y) | none => none) | none => none) ++ p.l9.filterMap fun s => match E0.get s with | some v => some (s, v) | none => none
def Ff (l : List Oper) (V : List (Yv → Value)) (y : Yv) : Nat → Env → Env
  | 0, E => E
  | i + 1, E => match eV l i with | some t => (match V[i]? with | some f => (t, f y) :: Ff l V y i E | none => Ff l V y i E) | none => Ff l V y i E
structure Kn (V : List (Yv → Value)) (P : List (Yv → Prop)) (At : List (Yv → List ad)) (A : List ad) (j : Nat) (y : Yv) : Prop where
  val : ∃ f q, V[j]? = some f ∧ P[j]? = some q ∧ y j = f y ∧ q y
  add : ∀ a, At[j]? = some a → ∀ B ∈ a y, B ∈ A
def N3 : List (Yv → List ad) → Nat → Prop
  | [], _ => True
  | f :: fs, i => (∀ y v, f (eS y i v) = f y) ∧ N3 fs i
def Loc (i : Nat) (p : eR) {β : Sort _} (f : Yv → β) : Prop := ∀ y y' : Yv, (∀ j, j = i ∨ j ∈ p.gB → y j = y' j) → f y = f y'
section
variable {C : Ctx} {E0 : Env} {Q : QT} {L : List ad}
def N7 (C : Ctx) (l : List Oper) (E0 : Env) (ch : List Nat) (V : List (Yv → Value)) (P : List (Yv → Prop)) (At : List (Yv → List ad)) (Ls : List (Yv → List ad)) : Nat → List Oper → List eR → List (Yv → Value) → List (Yv → Prop) → List (Yv → List ad) → Prop
  | _, [], [], [], [], [] => True
  | i, o :: os, p :: ps, f :: fs, q :: qs, b :: bs => Loc i p f ∧ Loc i p q ∧ Loc i p b ∧ (∀ y k Lf A, p.lo ≤ k → k ≤ p.hi → (∀ j ∈ p.gB, Kn V P At A j y) → Ls[k]? = some Lf → Step C l.toArray o (uA l E0 p V y) (Lf y ++ A) (fun v L' => f (eS y i v) = v ∧ q (eS y i v) ∧ (if mem i ch then ∃ L'', Ls[k + 1]? = some L'' ∧ L'.Perm (L'' (eS y i v) ++ (b (eS y i v) ++ A)) else L'.Perm (Lf (eS y i v) ++ (b (eS y i v) ++ A))))) ∧ N7 C l E0 ch V P At Ls (i + 1) os ps fs qs bs
  | _, _, _, _, _, _ => False
structure Acc where
  V : List (Yv → Value)
  P : List (Yv → Prop)
  At : List (Yv → List ad)
def Acc.put (c : Acc) (f : Yv → Value) (q : Yv → Prop) (b : Yv → List ad) : Acc := ⟨f :: c.V, q :: c.P, b :: c.At⟩
def PX (l : List Oper) (E0 : Env) (p : eR) (i : Nat) (c : Acc) (y : Yv) : Env :=
  (p.jB.filterMap fun j => match eV l j with | some t => (match c.V[i - 1 - j]? with | some f => some (t, f y) | none => none) | none => none) ++ p.l9.filterMap fun s => match E0.get s with | some v => some (s, v) | none => none
def D2 (l : List Oper) (n : Nat) (c : Acc) (y : Yv) : Nat → Env → Env
  | 0, E => E
  | i + 1, E => match eV l i with | some t => (match c.V[n - 1 - i]? with | some f => (t, f y) :: D2 l n c y i E | none => D2 l n c y i E) | none => D2 l n c y i E
structure Rf (c : Acc) (i : Nat) (A : List ad) (j : Nat) (y : Yv) : Prop where
  val : ∃ f q, c.V[i - 1 - j]? = some f ∧ c.P[i - 1 - j]? = some q ∧ y j = f y ∧ q y
  add : ∀ a, c.At[i - 1 - j]? = some a → ∀ B ∈ a y, B ∈ A
def Rs (C : Ctx) (l : List Oper) (E0 : Env) (ch : List Nat) (Ls : List (Yv → List ad)) : Nat → Acc → List Oper → List eR → (Acc → Prop) → Prop
  | _, c, [], [], K => K c
  | i, c, o :: os, p :: ps, K => ∃ (f : Yv → Value) (q : Yv → Prop) (b : Yv → List ad), Loc i p f ∧ Loc i p q ∧ Loc i p b ∧ (∀ y k Lf A, p.lo ≤ k → k ≤ p.hi → (∀ j ∈ p.gB, Rf c i A j y) → Ls[k]? = some Lf → Step C l.toArray o (PX l E0 p i c y) (Lf y ++ A) (fun v L' => f (eS y i v) = v ∧ q (eS y i v) ∧ (if mem i ch then ∃ L'', Ls[k + 1]? = some L'' ∧ L'.Perm (L'' (eS y i v) ++ (b (eS y i v) ++ A)) else L'.Perm (Lf (eS y i v) ++ (b (eS y i v) ++ A))))) ∧ Rs C l E0 ch Ls (i + 1) (c.put f q b) os ps K
  | _, _, _, _, _ => False
section
variable {l : List Oper} {ch : List Nat} {Ls : List (Yv → List ad)} {i : Nat} {c : Acc} {o : Oper} {os : List Oper} {ps : List eR} {f : Yv → Value} {K : Acc → Prop}
end
def gn : Value → Option Addr | .slice p _ _ => p | _ => none
def iJ : Value → Nat | .slice _ _ c => c | _ => 0
theorem HE {ops : Array Oper} {o : Oper} {E : Env} {R R' : Value → List ad → Prop} (h : Step C ops o E L R) (hR : ∀ v L', R v L' → R' v L') : Step C ops o E L R' :=
  fun a w K Q ha hi hK => h a w K Q ha hi fun v L' w' hr hi' => hK v L' w' (hR v L' hr) hi'
theorem re {ops : Array Oper} {d : Option Nat} {ty : TypeId} {pos : String} {aft : Array Edge} {E : Env} {f : FuncId} {args : List Operand} {tys : Array TypeId} {vs : List Value} {Pre F : List ad} {R : Value → List ad → Prop} {R' : Value → List ad → Prop} (hS : aG C.P f vs Pre (aQ R)) (hb : aH C.P f = true) (hE : iL E args = some vs) (hL : fJ L Pre F)
    (hR : ∀ v G, R v G → R' v (G ++ F)) : Step C ops ⟨d, .call ⟨.value (.func f), args.toArray, tys⟩, ty, pos, aft, none⟩ E L R' :=
  HE (ux (DQ hS hb hE hL)) fun v L' ⟨G, h1, e⟩ => by subst e; exact hR v G h1
end
end Go.Sl
namespace Go.Sl
open Go.RowKit (Below)
section
variable {C : Ctx} {Q : QT} {E : Env} {L L' F : List ad} {ops : Array Oper} {rest : List Oper} {d : Nat} {ty : TypeId} {pos : String} {aft : Array Edge} {op : Op} {v : Value}
end
theorem aV {L G M F : List ad} {A : ad} (hr : fJ L G M) (hd : Drop M F) (hA : ∀ w0 h, dk w0 G h → A w0 h) : Sub L (A :: F) := (sub hr hd).trans (fold hA)
def ints (k : IntKind) (xs : List Int) : List Value := xs.map (Value.int k)
theorem Ct {k : IntKind} {xs : List Int} {i : Nat} (h : i < xs.length) : (ints k xs)[i]? = some (.int k (xs.getD i 0)) := by simp [ints, h]
theorem ints_set {k : IntKind} {xs : List Int} {i : Nat} {n : Int} : (ints k xs).set i (.int k n) = ints k (xs.set i n) := by simp [ints]
def R6 (xs : List Bool) : List Value := xs.map Value.bool
end Go.Sl
namespace Go.Sl
section
variable {C : Ctx} {Q : QT} {E : Env} {L L' F : List ad} {ty : TypeId} {v : Value} {x y : Operand} {t t' : TypeId} {k : FloatKind} {a b r : Nat}
end
end Go.Sl
namespace Go.Sl
open Go.RowKit (Below)
def kL (p : Option Addr) : Nat := match p with | some a => a.block | none => 0
def pA (p : Option Addr) : Nat := match p with | some a => a.off | none => 0
structure Ec (α : Type) where
  T : TypeId
  sz : Nat
  e : α → List Value
  d : α
  len : ∀ x, (e x).length = sz
  one : ∀ x, (e x).all Value.oneCell' = true
def Ec.g {α : Type} (c : Ec α) (l : List α) (i : Int) : α := l.getD i.toNat c.d
theorem Ec.vG {α : Type} (c : Ec α) {l : List α} {k : Nat} (h : k < l.length) : c.g l (k : Int) = l[k] := by simp [Ec.g, h]
abbrev aP (T : TypeId) (k : IntKind) : Ec Int := ⟨T, 1, fun x => [.int k x], 0, fun _ => rfl, fun _ => rfl⟩
abbrev SY (T : TypeId) : Ec Bool := ⟨T, 1, fun x => [.bool x], false, fun _ => rfl, fun _ => rfl⟩
def Row {α : Type} (c : Ec α) (p : Option Addr) (n cap : Nat) (l : List α) : ad := fun w0 h => l.length = n ∧ Sl p n cap c.T c.sz (l.flatMap c.e) w0 h
def aS {α : Type} (c : Ec α) (p : Option Addr) (n : Nat) (l : List α) : ad := fun w0 h => l.length = n ∧ Rd p n c.sz (l.flatMap c.e) w0 h
theorem Row.rd {α : Type} {c : Ec α} {p : Option Addr} {n cap : Nat} {l : List α} {w0 : World} {h : Hp} (hr : Row c p n cap l w0 h) : aS c p n l w0 h := ⟨hr.1, Sl.rd hr.2⟩
theorem gx {α : Type} (c : Ec α) (l : List α) : (l.flatMap c.e).length = l.length * c.sz := by
  induction l with
  | nil => simp
  | cons x l ih => simp only [List.flatMap_cons, List.length_append, c.len, ih, List.length_cons, Nat.succ_mul]; omega
theorem ph {α : Type} (c : Ec α) : ∀ (l : List α) (i f : Nat) (h : i < l.length), f < c.sz → (l.flatMap c.e)[i * c.sz + f]? = (c.e l[i])[f]?
  | x :: l, 0, f, h, hf => by simp only [List.flatMap_cons, Nat.zero_mul, Nat.zero_add, List.getElem_cons_zero]; rw [List.getElem?_append_left (by rw [c.len]; exact hf)]
  | x :: l, i + 1, f, h, hf => by
    simp only [List.flatMap_cons, List.getElem_cons_succ]
    rw [List.getElem?_append_right (by rw [c.len, Nat.succ_mul]; omega), c.len, show (i + 1) * c.sz + f - c.sz = i * c.sz + f by rw [Nat.succ_mul]; omega]
    exact ph c l i f (by simpa using h) hf
theorem nw {α : Type} (c : Ec α) : ∀ (l : List α) (i : Nat), (l.flatMap c.e).drop (i * c.sz) = (l.drop i).flatMap c.e
  | l, 0 => by simp
  | [], i + 1 => by simp
  | x :: l, i + 1 => by
    simp only [List.flatMap_cons, List.drop_succ_cons]
    rw [show (i + 1) * c.sz = (c.e x).length + i * c.sz by rw [c.len, Nat.succ_mul]; omega, ← List.drop_drop, List.drop_left]
    exact nw c l i
theorem nJ {α : Type} (c : Ec α) : ∀ (l : List α) (i : Nat), (l.flatMap c.e).take (i * c.sz) = (l.take i).flatMap c.e
  | l, 0 => by simp
  | [], i + 1 => by simp
  | x :: l, i + 1 => by
    simp only [List.flatMap_cons, List.take_succ_cons]
    rw [show (i + 1) * c.sz = (c.e x).length + i * c.sz by rw [c.len, Nat.succ_mul]; omega, List.take_length_add_append]
    rw [nJ c l i]
theorem IC {α : Type} (c : Ec α) (l : List α) (i : Nat) (h : i < l.length) : ((l.flatMap c.e).drop (i * c.sz)).take c.sz = c.e l[i] := by
  rw [nw, List.drop_eq_getElem_cons h, List.flatMap_cons]
  exact List.take_left' (c.len _)
theorem xw {α : Type} (c : Ec α) : ∀ (l : List α) (i f : Nat) (h : i < l.length) (v : Value) (y : α), f < c.sz → (c.e l[i]).set f v = c.e y → (l.flatMap c.e).set (i * c.sz + f) v = (l.set i y).flatMap c.e
  | x :: l, 0, f, h, v, y, hf, e => by
    simp only [List.flatMap_cons, Nat.zero_mul, Nat.zero_add, List.set_cons_zero]
    rw [List.set_append_left _ _ (by rw [c.len]; exact hf)]
    rw [← e]; rfl
  | x :: l, i + 1, f, h, v, y, hf, e => by
    simp only [List.flatMap_cons, List.set_cons_succ]
    rw [List.set_append_right _ _ (by rw [c.len, Nat.succ_mul]; omega), c.len, show (i + 1) * c.sz + f - c.sz = i * c.sz + f by rw [Nat.succ_mul]; omega]
    rw [xw c l i f (by simpa using h) v y hf (by simpa using e)]
theorem Bw {α : Type} (c : Ec α) (l : List α) (i : Nat) (h : i < l.length) (y : α) : (l.flatMap c.e).take (i * c.sz) ++ c.e y ++ (l.flatMap c.e).drop (i * c.sz + c.sz) = (l.set i y).flatMap c.e := by
  rw [nJ, show i * c.sz + c.sz = (i + 1) * c.sz by rw [Nat.succ_mul], nw]
  rw [List.set_eq_take_append_cons_drop, if_pos h]
  simp
theorem o1 {α : Type} (c : Ec α) (l : List α) : (l.flatMap c.e).all Value.oneCell' = true := by
  simp only [List.all_eq_true]
  intro v hv
  obtain ⟨x, _, hx⟩ := List.mem_flatMap.1 hv
  exact List.all_eq_true.1 (c.one x) v hx
def Has {α : Type} (w0 : World) (L : List ad) (c : Ec α) (p : Option Addr) (n : Nat) (l : List α) : Prop := ∃ R, R ∈ L ∧ ∀ h, R w0 h → aS c p n l w0 h
theorem own {α : Type} {w0 : World} {L : List ad} {c : Ec α} {p : Option Addr} {n cap : Nat} {l : List α} (hm : Row c p n cap l ∈ L) : Has w0 L c p n l := ⟨_, hm, fun _ h => Row.rd h⟩
theorem bE {α : Type} {w0 : World} {L : List ad} {R : ad} {c : Ec α} {p : Option Addr} {n : Nat} {l : List α} (hR : ∀ w0 h, R w0 h → aS c p n l w0 h) (hm : R ∈ L) : Has w0 L c p n l := ⟨R, hm, fun h hh => hR w0 h hh⟩
theorem Has.fact {α : Type} {w0 w : World} {L : List ad} {c : Ec α} {p : Option Addr} {n : Nat} {l : List α} (H : Has w0 L c p n l) (hi : Inv w0 L w) :
    l.length = n ∧ (n = 0 ∨ ∃ b o, p = some ⟨b, o, none⟩ ∧ ∀ i v, (l.flatMap c.e)[i]? = some v → w.cell? ⟨b, o + i, none⟩ = some v) := by
  obtain ⟨R, hm, hR⟩ := H
  obtain ⟨F, hb, h, a, h1, h2, d, l1, l2, hp, k⟩ := hi.mem hm
  obtain ⟨e0, e1, e2⟩ := hR h1 hp
  refine ⟨e0, e2.imp id ?_⟩
  rintro ⟨b, o, rfl, hc⟩
  exact ⟨b, o, rfl, fun i v hv => uf hb (fun b o e => a b o (l1 b o e)) (hc i v hv)⟩
theorem Has.len {α : Type} {w0 w : World} {L : List ad} {c : Ec α} {p : Option Addr} {n : Nat} {l : List α} (H : Has w0 L c p n l) (hi : Inv w0 L w) : l.length = n := (H.fact hi).1
section
variable {C : Ctx} {Q : QT} {E : Env} {L L' F : List ad} {ops : Array Oper} {rest : List Oper} {d : Nat} {ty : TypeId} {pos : String} {aft : Array Edge} {op : Op} {v : Value} {α : Type} {c : Ec α}
theorem Hi {cd : Code} {p : Option Addr} {n : Nat} {l : List α} (H : Has C.w0 L c p n l) (k : l.length = n → Wp C cd Q E L) : Wp C cd Q E L := gY (fun w hi => H.len hi) k
theorem Ak {cd : Code} {p : Option Addr} {n cap : Nat} {l : List α} (hm : Row c p n cap l ∈ L) (k : n ≤ cap → Wp C cd Q E L) : Wp C cd Q E L := gY (p := n ≤ cap) (fun w hi => by
  obtain ⟨F, hb, h, a, h1, h2, d, l1, l2, hp, _⟩ := hi.mem hm
  rcases hp.2 with ⟨rfl, rfl, rfl, _⟩ | ⟨b, o, pre, post, _, _, _, _, _, e⟩
  · exact Nat.le_refl _
  · exact e) k
theorem cF.Cu {p : Prop} (h : ∀ w, Inv C.w0 L w → p) (k : p → cF C op ty E L v L') : cF C op ty E L v L' := fun d pos aft g a w ha hi => k (h w hi) d pos aft g a w ha hi
theorem zN {x ix : Operand} {t cJ n cap : Nat} {p : Option Addr} {k : IntKind} {i : Int} {l : List α} (ht : sliceB C.P t = some (c.T, c.sz, cJ)) (h : aq E x = some (.slice p n cap)) (hi : aq E ix = some (.int k i)) (H : Has C.w0 L c p n l) (h0 : 0 ≤ i) (hlt : i < n) :
    cF C (.indexAddr t x ix) ty E L (.pointer (some ⟨kL p, pA p + i.toNat * c.sz, none⟩)) L :=
  cF.Cu (p := ∃ b o, p = some ⟨b, o, none⟩) (fun w hi => by
    obtain ⟨_, e⟩ := H.fact hi
    rcases e with e | ⟨b, o, e, _⟩
    · omega
    · exact ⟨b, o, e⟩) (by
    rintro ⟨b, o, rfl⟩
    exact Jm i.toNat (by omega) ht h hi (by omega))
theorem dW {x : Operand} {t n : Nat} {p : Option Addr} {i : Int} {l : List α} (f : Nat) (hs : dq C.P t = true) (hx : aq E x = some (.pointer (some ⟨kL p, pA p + i.toNat * c.sz + f, none⟩))) (H : Has C.w0 L c p n l) (h0 : 0 ≤ i) (hlt : i < n) (hf : Nat.blt f c.sz = true) (hv : (c.e (c.g l i))[f]? = some v) : cF C (.load t x) ty E L v L :=
  yT hs hx fun w hi => by
    obtain ⟨e1, e2⟩ := H.fact hi
    rcases e2 with e2 | ⟨b, o, e3, e4⟩
    · omega
    · subst e3
      show w.cell? ⟨b, o + i.toNat * c.sz + f, none⟩ = some v
      rw [Nat.add_assoc]
      refine e4 _ _ ?_
      rw [ph c l i.toNat f (by omega) (fU hf), ← hv]
      simp [Ec.g, show i.toNat < l.length by omega]
theorem JR {x : Operand} {t n : Nat} {p : Option Addr} {i : Int} {l : List α} (hs : dq C.P t = true) (hx : aq E x = some (.pointer (some ⟨kL p, pA p + i.toNat * c.sz, none⟩))) (H : Has C.w0 L c p n l) (h0 : 0 ≤ i) (hlt : i < n) (hf : Nat.blt 0 c.sz = true) (hv : (c.e (c.g l i))[0]? = some v) : cF C (.load t x) ty E L v L :=
  dW 0 hs hx H h0 hlt hf hv
theorem oa {x : Operand} {t n : Nat} {p : Option Addr} {i : Int} {l : List α} {us : List Value} (hs : ia C.P t = some c.sz) (hx : aq E x = some (.pointer (some ⟨kL p, pA p + i.toNat * c.sz, none⟩))) (H : Has C.w0 L c p n l) (h0 : 0 ≤ i) (hlt : i < n) (hv : c.e (c.g l i) = us) : cF C (.load t x) ty E L (.agg us.toArray) L :=
  cF.Cu (p := ∃ b o, p = some ⟨b, o, none⟩) (fun w hi => by
    obtain ⟨_, e⟩ := H.fact hi
    rcases e with e | ⟨b, o, e, _⟩
    · omega
    · exact ⟨b, o, e⟩) (by
    rintro ⟨b, o, rfl⟩
    refine tt hs hx (by rw [← hv, c.len]) fun w hi j v hj => ?_
    obtain ⟨e1, e2⟩ := H.fact hi
    rcases e2 with e2 | ⟨b', o', e3, e4⟩
    · omega
    · cases e3
      show w.cell? ⟨b, o + i.toNat * c.sz + j, none⟩ = some v
      rw [Nat.add_assoc]
      refine e4 _ _ ?_
      have hjl := (List.getElem?_eq_some_iff.1 hj).1
      rw [← hv, c.len] at hjl
      rw [ph c l i.toNat j (by omega) hjl, ← hj, ← hv]
      simp [Ec.g, show i.toNat < l.length by omega])
theorem Fz {x z : Operand} {t n cap : Nat} {p : Option Addr} {i : Int} {l : List α} {u : Value} (f : Nat) (y : α) (hs : dq C.P t = true) (hx : aq E x = some (.pointer (some ⟨kL p, pA p + i.toNat * c.sz + f, none⟩))) (hy : aq E z = some u) (h1 : u.oneCell' = true)
    (hr : jV L (Row c p n cap l) (Row c p n cap (l.set i.toNat y)) L') (h0 : 0 ≤ i) (hlt : i < n) (hf : Nat.blt f c.sz = true) (hv : (c.e (c.g l i)).set f u = c.e y) : cF C (.store t x z) ty E L undef L' := by
  intro d pos aft g a w ha hi
  obtain ⟨F, p1, p2⟩ := hr.perm
  have hi1 := hi.perm p1
  obtain ⟨e1, e2⟩ := (own (w0 := C.w0) (L := Row c p n cap l :: F) an).fact hi1
  obtain ⟨b, o, rfl⟩ : ∃ b o, p = some ⟨b, o, none⟩ := by
    rcases e2 with e2 | ⟨b, o, e2, _⟩
    · omega
    · exact ⟨b, o, e2⟩
  have hi2 : Inv C.w0 (Sl (some ⟨b, o, none⟩) n cap c.T c.sz (l.flatMap c.e) :: F) w := hi1.imp (fun h hh => hh.2)
  have hil : i.toNat < l.length := by omega
  have hil2 : i.toNat * c.sz + f < (l.flatMap c.e).length := by
    rw [gx]
    have : (i.toNat + 1) * c.sz ≤ l.length * c.sz := Nat.mul_le_mul_right _ hil
    rw [Nat.succ_mul] at this
    have := fU hf
    omega
  obtain ⟨w', hr', hi', _⟩ := FA (C := C) (E := E) (ty := ty) (L := Sl (some ⟨b, o, none⟩) n cap c.T c.sz (l.flatMap c.e) :: F) (vs' := (l.set i.toNat y).flatMap c.e) (i.toNat * c.sz + f) hs hx hy h1 jV.head (by show o + i.toNat * c.sz + f = _; omega) hil2 (xw c l i.toNat f hil u y (fU hf) (by rw [← hv]; simp [Ec.g, hil])) d pos aft g a w ha hi2
  exact ⟨w', hr', (hi'.imp (fun h hh => ⟨by simp [e1], hh⟩)).perm p2, fun h => by cases h⟩
theorem gu {x z : Operand} {t n cap : Nat} {p : Option Addr} {i : Int} {l : List α} {u : Value} (y : α) (hs : dq C.P t = true) (hx : aq E x = some (.pointer (some ⟨kL p, pA p + i.toNat * c.sz, none⟩))) (hy : aq E z = some u) (h1 : u.oneCell' = true)
    (hr : jV L (Row c p n cap l) (Row c p n cap (l.set i.toNat y)) L') (h0 : 0 ≤ i) (hlt : i < n) (hf : Nat.blt 0 c.sz = true) (hv : (c.e (c.g l i)).set 0 u = c.e y) : cF C (.store t x z) ty E L undef L' :=
  Fz 0 y hs hx hy h1 hr h0 hlt hf hv
theorem Fi {x z : Operand} {t n cap : Nat} {p : Option Addr} {i : Int} {l : List α} {us : List Value} (y : α) (hs : ia C.P t = some c.sz) (hx : aq E x = some (.pointer (some ⟨kL p, pA p + i.toNat * c.sz, none⟩))) (hy : aq E z = some (.agg us.toArray))
    (hr : jV L (Row c p n cap l) (Row c p n cap (l.set i.toNat y)) L') (h0 : 0 ≤ i) (hlt : i < n) (hv : us = c.e y) : cF C (.store t x z) ty E L undef L' := by
  intro d pos aft g a w ha hi
  subst hv
  obtain ⟨F, p1, p2⟩ := hr.perm
  have hi1 := hi.perm p1
  obtain ⟨e1, e2⟩ := (own (w0 := C.w0) (L := Row c p n cap l :: F) an).fact hi1
  obtain ⟨b, o, rfl⟩ : ∃ b o, p = some ⟨b, o, none⟩ := by
    rcases e2 with e2 | ⟨b, o, e2, _⟩
    · omega
    · exact ⟨b, o, e2⟩
  have hil : i.toNat < l.length := by omega
  have hi2 : Inv C.w0 (Sl (some ⟨b, o, none⟩) n cap c.T c.sz (l.flatMap c.e) :: F) w := hi1.imp (fun h hh => hh.2)
  obtain ⟨zz, hzz, hi3⟩ := hi2.vC (Sl.open_ C.w0)
  cases zz with
  | none => cases hzz.1
  | some zz =>
    obtain ⟨b', o', pre, post⟩ := zz
    obtain ⟨e3, e4, e5, e6, e7⟩ := hzz
    cases e3
    have hle : (i.toNat + 1) * c.sz ≤ l.length * c.sz := Nat.mul_le_mul_right _ hil
    rw [Nat.succ_mul] at hle
    have hfl := gx c l
    obtain ⟨w', hr', hi', _⟩ := aF (C := C) (E := E) (ty := ty) (L := ao b c.T (pre ++ l.flatMap c.e ++ post) :: F) (o := o + i.toNat * c.sz) (cs' := pre ++ (l.set i.toNat y).flatMap c.e ++ post) hs hx hy (c.one y) (c.len y) jV.head (by simp only [List.length_append]; omega) (by
      rw [← Bw c l i.toNat hil y]
      have t1 : (pre ++ l.flatMap c.e ++ post).take (o + i.toNat * c.sz) = pre ++ (l.flatMap c.e).take (i.toNat * c.sz) := by
        rw [List.append_assoc, List.take_append, e4, List.take_of_length_le (by omega), show o + i.toNat * c.sz - o = i.toNat * c.sz by omega, List.take_append_of_le_length (by omega)]
      have t2 : (pre ++ l.flatMap c.e ++ post).drop (o + i.toNat * c.sz + c.sz) = (l.flatMap c.e).drop (i.toNat * c.sz + c.sz) ++ post := by
        rw [List.append_assoc, List.drop_append, e4, List.drop_of_length_le (by omega), List.nil_append, show o + i.toNat * c.sz + c.sz - o = i.toNat * c.sz + c.sz by omega, List.drop_append_of_le_length (by omega)]
      rw [t1, t2]
      simp [List.append_assoc]) d pos aft g a w ha (by simpa using hi3)
    refine ⟨w', hr', Inv.perm ?_ p2, fun h => by cases h⟩
    refine Inv.cls (B := [ao b c.T (pre ++ (l.set i.toNat y).flatMap c.e ++ post)]) (fun h hc => ⟨by simp [e1], Sl.mk hc e4 (by rw [gx, List.length_set]; rw [hfl] at e5; exact e5) e6 e7⟩) hi'
theorem qy {s x : Operand} {t cJ n m cap cap2 : Nat} {p p2 : Option Addr} {l l2 : List α} {F : List ad} {zs : List Value}
    (ht : sliceB C.P t = some (c.T, c.sz, cJ)) (hz : dH C.P c.T = some zs) (hsz : Nat.ble 1 c.sz = true) (hby : Nat.ble 1 cJ = true)
    (hs : aq E s = some (.slice p n cap)) (hx : aq E x = some (.slice p2 m cap2)) (hL : iq L (Row c p n cap l) F) (H : Has C.w0 L c p2 m l2) (hb : (n + m) * cJ ≤ 140737488355328) :
    kO C (.call ⟨.builtin .append, [s, x].toArray, #[t, t]⟩) ty E L (fun v L' => ∃ p' cap', v = .slice p' (n + m) cap' ∧ L' = Row c p' (n + m) cap' (l ++ l2) :: F) := by
  intro d pos aft g a w K Qx ha hi hK
  obtain ⟨R, hm, hR⟩ := H
  have hl2 : l2.length = m := (Has.fact ⟨R, hm, hR⟩ hi).1
  have hl1 : l.length = n := ((own (w0 := C.w0) (L := Row c p n cap l :: F) an).fact (hi.perm hL.perm)).1
  by_cases hRe : R ∈ F
  · have hi2 : Inv C.w0 (Sl p n cap c.T c.sz (l.flatMap c.e) :: F) w := (hi.perm hL.perm).imp (fun h hh => hh.2)
    refine wV (C := C) (E := E) (ty := ty) (vs := l.flatMap c.e) (ws := l2.flatMap c.e) (R := R) ht hz hsz hby hs hx iq.head (List.mem_cons_of_mem _ hRe) (fun h hh => (hR h hh).2) (o1 c l2) hb d pos aft g a w K Qx ha hi2 ?_
    rintro v L' w' ⟨p', cap', e1, e2⟩ hi'
    subst e2
    exact hK v _ w' ⟨p', cap', e1, rfl⟩ (hi'.imp (fun h hh => ⟨by simp [hl1, hl2], by rw [List.flatMap_append]; exact hh⟩))
  · have hRr : R = Row c p n cap l := by
      have := hL.perm.mem_iff.1 hm
      rcases List.mem_cons.1 this with e | e
      · exact e
      · exact absurd e hRe
    subst hRr
    have hi2 : Inv C.w0 (Sl p n cap c.T c.sz (l.flatMap c.e) :: F) w := (hi.perm hL.perm).imp (fun h hh => hh.2)
    refine wV (C := C) (E := E) (ty := ty) (vs := l.flatMap c.e) (ws := l2.flatMap c.e) (R := Sl p n cap c.T c.sz (l.flatMap c.e)) ht hz hsz hby hs hx iq.head (List.mem_cons_self) (fun h hh => (hR h ⟨hl1, hh⟩).2) (o1 c l2) hb d pos aft g a w K Qx ha hi2 ?_
    rintro v L' w' ⟨p', cap', e1, e2⟩ hi'
    subst e2
    exact hK v _ w' ⟨p', cap', e1, rfl⟩ (hi'.imp (fun h hh => ⟨by simp [hl1, hl2], by rw [List.flatMap_append]; exact hh⟩))
theorem dw {s x : Operand} {t cJ n m cap cap2 : Nat} {p p2 : Option Addr} {l l2 : List α} {F : List ad} {zs : List Value}
    (ht : sliceB C.P t = some (c.T, c.sz, cJ)) (hz : dH C.P c.T = some zs) (hsz : Nat.ble 1 c.sz = true) (hby : Nat.ble 1 cJ = true)
    (hs : aq E s = some (.slice p n cap)) (hx : aq E x = some (.slice p2 m cap2)) (hL : iq L (Row c p n cap l) F) (H : Has C.w0 L c p2 m l2) (hb : (n + m) * cJ ≤ 140737488355328) (hd : Nat.blt d C.n = true)
    (k : ∀ p' cap', dM C ops rest Q ((d, .slice p' (n + m) cap') :: E) (Row c p' (n + m) cap' (l ++ l2) :: F)) :
    dM C ops (⟨some d, .call ⟨.builtin .append, [s, x].toArray, #[t, t]⟩, ty, pos, aft, none⟩ :: rest) Q E L :=
  pe (qy ht hz hsz hby hs hx hL H hb) hd fun v L' ⟨p', cap', e1, e2⟩ => by subst e1; subst e2; exact k p' cap'
theorem HI {x y : Operand} {t cJ : Nat} {k1 k2 : IntKind} {i1 i2 : Int} {zs : List Value} (ht : sliceB C.P t = some (c.T, c.sz, cJ)) (hz : dH C.P c.T = some zs) (hze : zs = c.e c.d) (hsz : Nat.ble 1 c.sz = true)
    (hx : aq E x = some (.int k1 i1)) (hy : aq E y = some (.int k2 i2)) (h0 : 0 ≤ i1) (hnc : i1 ≤ i2) (hb : i2 * cJ ≤ 281474976710656) (hby : Nat.ble 1 cJ = true) :
    kO C (.makeSlice t x y) ty E L (fun v L' => ∃ b, v = .slice (some ⟨b, 0, none⟩) i1.toNat i2.toNat ∧ L' = Row c (some ⟨b, 0, none⟩) i1.toNat i2.toNat (List.replicate i1.toNat c.d) :: L) := by
  intro d pos aft g a w K Qx ha hi hK
  have hby := Nat.le_of_ble_eq_true hby
  have hb' : i2.toNat * cJ ≤ 281474976710656 := by
    have : ((i2.toNat * cJ : Nat) : Int) = i2 * cJ := by rw [Int.natCast_mul]; congr 1; omega
    omega
  have h63 : i2.toNat ≤ i2.toNat * cJ := Nat.le_mul_of_pos_right _ hby
  refine KR (C := C) (E := E) (ty := ty) i1.toNat i2.toNat (by omega) (by omega) ht hz hsz hx hy (by omega) (by omega) hb' d pos aft g a w K Qx ha hi ?_
  rintro v L' w' ⟨b, e1, e2⟩ hi'
  subst e2
  refine hK v _ w' ⟨b, e1, rfl⟩ (hi'.imp (fun h hh => ⟨by simp, ?_⟩))
  have e : (List.replicate i1.toNat c.d).flatMap c.e = (List.replicate i1.toNat zs).flatten := by rw [hze, List.flatMap_replicate]
  rw [e]
  exact hh
theorem Mu {x y : Operand} {t cJ : Nat} {k1 k2 : IntKind} {i1 i2 : Int} {zs : List Value} (c : Ec α) (ht : sliceB C.P t = some (c.T, c.sz, cJ)) (hz : dH C.P c.T = some zs) (hze : zs = c.e c.d) (hsz : Nat.ble 1 c.sz = true)
    (hx : aq E x = some (.int k1 i1)) (hy : aq E y = some (.int k2 i2)) (h0 : 0 ≤ i1) (hnc : i1 ≤ i2) (hb : i2 * cJ ≤ 281474976710656) (hby : Nat.ble 1 cJ = true) (hd : Nat.blt d C.n = true)
    (k : ∀ b, dM C ops rest Q ((d, .slice (some ⟨b, 0, none⟩) i1.toNat i2.toNat) :: E) (Row c (some ⟨b, 0, none⟩) i1.toNat i2.toNat (List.replicate i1.toNat c.d) :: L)) : dM C ops (⟨some d, .makeSlice t x y, ty, pos, aft, none⟩ :: rest) Q E L :=
  pe (HI ht hz hze hsz hx hy h0 hnc hb hby) hd fun v L' ⟨b, e1, e2⟩ => by subst e1; subst e2; exact k b
theorem yj {t cJ len : Nat} {parts : List (Nat × Operand)} {pv : List (Nat × Value)} {zs : List Value} (c : Ec α) (l : List α) (ht : sliceB C.P t = some (c.T, c.sz, cJ)) (hz : dH C.P c.T = some zs) (hsz : Nat.ble 1 c.sz = true) (hsm : Nat.ble (len * c.sz) 16777216 = true)
    (hp : oS E parts = some pv) (hf : Instr.fill (fun i => some (i * c.sz, c.sz)) ((List.replicate len zs).flatten.toArray) pv = some (l.flatMap c.e).toArray) (hl : l.length = len) :
    kO C (.buildSlice t len parts.toArray) ty E L (fun v L' => ∃ b, v = .slice (some ⟨b, 0, none⟩) len len ∧ L' = Row c (some ⟨b, 0, none⟩) len len l :: L) := by
  intro d pos aft g a w K Qx ha hi hK
  refine yf (C := C) (E := E) (ty := ty) ht hz hsz hsm (nS hp) hf (by rw [gx, hl]) d pos aft g a w K Qx ha hi ?_
  rintro v L' w' ⟨b, e1, e2⟩ hi'
  subst e2
  exact hK v _ w' ⟨b, e1, rfl⟩ (hi'.imp (fun h hh => ⟨hl, hh⟩))
theorem cV {t cJ len : Nat} {parts : List (Nat × Operand)} {pv : List (Nat × Value)} {zs : List Value} (c : Ec α) (l : List α) (ht : sliceB C.P t = some (c.T, c.sz, cJ)) (hz : dH C.P c.T = some zs) (hsz : Nat.ble 1 c.sz = true) (hsm : Nat.ble (len * c.sz) 16777216 = true)
    (hp : oS E parts = some pv) (hf : Instr.fill (fun i => some (i * c.sz, c.sz)) ((List.replicate len zs).flatten.toArray) pv = some (l.flatMap c.e).toArray) (hl : l.length = len) (hd : Nat.blt d C.n = true)
    (k : ∀ b, dM C ops rest Q ((d, .slice (some ⟨b, 0, none⟩) len len) :: E) (Row c (some ⟨b, 0, none⟩) len len l :: L)) : dM C ops (⟨some d, .buildSlice t len parts.toArray, ty, pos, aft, none⟩ :: rest) Q E L :=
  pe (yj c l ht hz hsz hsm hp hf hl) hd fun v L' ⟨b, e1, e2⟩ => by subst e1; subst e2; exact k b
end
theorem Row.nil {α : Type} (c : Ec α) (w0 : World) (h : Hp) : Row c none 0 0 [] w0 h := ⟨rfl, Sl.nil _ _ _ _⟩
theorem aS.sub {α : Type} {c : Ec α} {p : Option Addr} {n : Nat} {l : List α} {w0 : World} {h : Hp} (hr : aS c p n l w0 h) (a b m : Nat) (h1 : a ≤ b) (h2 : b ≤ n) (h3 : b ≤ m) : aS c (eo p a m c.sz) (b - a) ((l.drop a).take (b - a)) w0 h := by
  obtain ⟨e0, e1, e2⟩ := hr
  refine ⟨by simp; omega, ?_⟩
  rw [← nJ, ← nw]
  refine ⟨by rw [List.length_take, List.length_drop, e1]; rw [← Nat.sub_mul]; exact Nat.min_eq_left (Nat.mul_le_mul_right _ (by omega)), ?_⟩
  by_cases hab : b = a
  · left; omega
  · right
    rcases e2 with e2 | ⟨b', o, rfl, e2⟩
    · omega
    · refine ⟨b', o + a * c.sz, Bu _ _ _ _ _ (by omega), fun i v hv => ?_⟩
      rw [Nat.add_assoc]
      refine e2 _ _ ?_
      rw [List.getElem?_take] at hv
      split at hv
      · rwa [List.getElem?_drop] at hv
      · cases hv
end Go.Sl
namespace Go.Sl
open Go.RowKit (Below)
section
variable {C : Ctx} {Q : QT} {E : Env} {L L' F : List ad} {ops : Array Oper} {rest : List Oper} {d : Nat} {ty : TypeId} {pos : String} {aft : Array Edge} {op : Op} {v : Value} {α : Type} {c : Ec α}
theorem om {x y : Operand} {t cJ : Nat} {k1 k2 : IntKind} {i1 i2 : Int} {zs : List Value} (n m : Nat) (c : Ec α) (e1 : i1 = (n : Int)) (e2 : i2 = (m : Int)) (ht : sliceB C.P t = some (c.T, c.sz, cJ)) (hz : dH C.P c.T = some zs) (hze : zs = c.e c.d) (hsz : Nat.ble 1 c.sz = true)
    (hx : aq E x = some (.int k1 i1)) (hy : aq E y = some (.int k2 i2)) (hnc : n ≤ m) (hb : m * cJ ≤ 281474976710656) (hby : Nat.ble 1 cJ = true) (hd : Nat.blt d C.n = true)
    (k : ∀ b, dM C ops rest Q ((d, .slice (some ⟨b, 0, none⟩) n m) :: E) (Row c (some ⟨b, 0, none⟩) n m (List.replicate n c.d) :: L)) : dM C ops (⟨some d, .makeSlice t x y, ty, pos, aft, none⟩ :: rest) Q E L := by
  subst e1
  subst e2
  refine Mu c ht hz hze hsz hx hy (by omega) (by omega) ?_ hby hd k
  have : ((m * cJ : Nat) : Int) = (m : Int) * cJ := Int.natCast_mul _ _
  omega
theorem Has.sub {w0 : World} {p : Option Addr} {n : Nat} {l : List α} (H : Has w0 L c p n l) (a b m : Nat) (h1 : a ≤ b) (h2 : b ≤ n) (h3 : b ≤ m) : Has w0 L c (eo p a m c.sz) (b - a) ((l.drop a).take (b - a)) := by
  obtain ⟨R, hm, hR⟩ := H
  exact ⟨R, hm, fun h hh => (hR h hh).sub a b m h1 h2 h3⟩
theorem Has.take {w0 : World} {p : Option Addr} {n : Nat} {l : List α} (H : Has w0 L c p n l) (b : Nat) (h2 : b ≤ n) : Has w0 L c p b (l.take b) := by
  have := H.sub 0 b b (Nat.zero_le _) h2 (Nat.le_refl _)
  rwa [nU, Nat.sub_zero, List.drop_zero] at this
end
end Go.Sl

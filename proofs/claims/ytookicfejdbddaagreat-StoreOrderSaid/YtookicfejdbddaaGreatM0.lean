/- Walks of functions that the law reaches, and what they lean on; no conditions. -/
import Derived.Calls
import Derived.Below
import Derived.Tactics
import Derived.Orders
import Derived.Laws.Cells
import Derived.Laws.Entries
import Derived.Laws.Wrap64
set_option linter.unusedVariables false
set_option linter.unusedSimpArgs false
set_option linter.unnecessarySimpa false
set_option maxRecDepth 100000
namespace Go.Sl
open Go.RowKit (Below)
abbrev Hp := Nat → Option Obj
def Hp.le (a b : Hp) : Prop := ∀ n o, a n = some o → b n = some o
def Hp.disj (a b : Hp) : Prop := ∀ n, a n = none ∨ b n = none
def Hp.join (a b : Hp) : Hp := fun n => match a n with | some o => some o | none => b n
theorem Hp.le_refl (a : Hp) : a.le a := fun _ _ h => h
theorem Hp.le_trans {a b c : Hp} (h : a.le b) (k : b.le c) : a.le c := fun n o e => k n o (h n o e)
theorem Hp.disj_symm {a b : Hp} (h : a.disj b) : b.disj a := fun n => (h n).symm
theorem Hp.disj_le {a a' b b' : Hp} (h : a.disj b) (ha : a'.le a) (hb : b'.le b) : a'.disj b' := fun n => by
  rcases h n with h | h
  · left
    cases e : a' n with
    | none => rfl
    | some o => rw [ha n o e] at h; cases h
  · right
    cases e : b' n with
    | none => rfl
    | some o => rw [hb n o e] at h; cases h
theorem Hp.le_join_left (a b : Hp) : a.le (a.join b) := fun n o h => by simp [Hp.join, h]
theorem Hp.le_join_right {a b : Hp} (hd : a.disj b) : b.le (a.join b) := fun n o h => by
  rcases hd n with e | e
  · simp [Hp.join, e, h]
  · rw [e] at h; cases h
theorem Hp.join_le {a b c : Hp} (h : a.le c) (k : b.le c) : (a.join b).le c := fun n o e => by
  unfold Hp.join at e
  split at e
  · rename_i x hx; cases e; exact h n _ hx
  · exact k n o e
theorem Hp.join_disj {a b c : Hp} (h : a.disj c) (k : b.disj c) : (a.join b).disj c := fun n => by
  rcases h n with e | e
  · rcases k n with e' | e'
    · left; simp [Hp.join, e, e']
    · exact .inr e'
  · exact .inr e
abbrev HProp := World → Hp → Prop
def sats (w0 : World) : List HProp → Hp → Prop
  | [], _ => True
  | p :: l, h => ∃ h1 h2, Hp.disj h1 h2 ∧ Hp.le h1 h ∧ Hp.le h2 h ∧ p w0 h1 ∧ sats w0 l h2
theorem sats_mono {w0 : World} : ∀ {L : List HProp} {h h' : Hp}, Hp.le h h' → sats w0 L h → sats w0 L h'
  | [], _, _, _, _ => trivial
  | _ :: _, _, _, hl, ⟨h1, h2, d, l1, l2, p, r⟩ => ⟨h1, h2, d, Hp.le_trans l1 hl, Hp.le_trans l2 hl, p, r⟩
theorem sats_append {w0 : World} : ∀ {L M : List HProp} {h : Hp}, sats w0 (L ++ M) h ↔ ∃ h1 h2, Hp.disj h1 h2 ∧ Hp.le h1 h ∧ Hp.le h2 h ∧ sats w0 L h1 ∧ sats w0 M h2
  | [], M, h => ⟨fun k => ⟨fun _ => none, h, fun _ => .inl rfl, fun _ _ e => by simp at e, Hp.le_refl _, trivial, k⟩, fun ⟨_, _, _, _, l, _, k⟩ => sats_mono l k⟩
  | p :: L, M, h => by
    constructor
    · rintro ⟨h1, h2, d, l1, l2, hp, k⟩
      obtain ⟨g1, g2, d', m1, m2, k1, k2⟩ := sats_append.1 k
      refine ⟨h1.join g1, g2, ?_, ?_, Hp.le_trans m2 l2, ?_, k2⟩
      · exact Hp.join_disj (Hp.disj_le d (Hp.le_refl _) m2) d'
      · exact Hp.join_le l1 (Hp.le_trans m1 l2)
      · exact ⟨h1, g1, Hp.disj_le d (Hp.le_refl _) m1, Hp.le_join_left _ _, Hp.le_join_right (Hp.disj_le d (Hp.le_refl _) m1), hp, k1⟩
    · rintro ⟨h1, h2, d, l1, l2, ⟨g1, g2, d', m1, m2, hp, k1⟩, k2⟩
      refine ⟨g1, g2.join h2, ?_, Hp.le_trans m1 l1, ?_, hp, ?_⟩
      · exact Hp.disj_symm (Hp.join_disj (Hp.disj_symm d') (Hp.disj_symm (Hp.disj_le d m1 (Hp.le_refl _))))
      · exact Hp.join_le (Hp.le_trans m2 l1) l2
      · exact sats_append.2 ⟨g2, h2, Hp.disj_le d m2 (Hp.le_refl _), Hp.le_join_left _ _, Hp.le_join_right (Hp.disj_le d m2 (Hp.le_refl _)), k1, k2⟩
theorem sats_perm {w0 : World} {L M : List HProp} (hp : L.Perm M) : ∀ {h : Hp}, sats w0 L h → sats w0 M h := by
  induction hp with
  | nil => exact fun k => k
  | cons p _ ih => exact fun ⟨h1, h2, d, l1, l2, hp, k⟩ => ⟨h1, h2, d, l1, l2, hp, ih k⟩
  | swap p q l =>
    rintro h ⟨h1, h2, d, l1, l2, hp, g1, g2, d', m1, m2, hq, k⟩
    refine ⟨g1, h1.join g2, ?_, Hp.le_trans m1 l2, ?_, hq, h1, g2, ?_, Hp.le_join_left _ _, ?_, hp, k⟩
    · exact Hp.disj_symm (Hp.join_disj (Hp.disj_le d (Hp.le_refl _) m1) (Hp.disj_symm d'))
    · exact Hp.join_le l1 (Hp.le_trans m2 l2)
    · exact Hp.disj_le d (Hp.le_refl _) m2
    · exact Hp.le_join_right (Hp.disj_le d (Hp.le_refl _) m2)
  | trans _ _ ih1 ih2 => exact fun k => ih2 (ih1 k)
structure Inv (w0 : World) (L : List HProp) (w : World) : Prop where
  below : Below w0.heap.size w0 w
  heap : ∃ h : Hp, (∀ b o, h b = some o → w0.heap.size ≤ b ∧ w.heap[b]? = some o) ∧ sats w0 L h
theorem Inv.perm {w0 w : World} {L M : List HProp} (hi : Inv w0 L w) (hp : L.Perm M) : Inv w0 M w :=
  ⟨hi.below, let ⟨h, a, b⟩ := hi.heap; ⟨h, a, sats_perm hp b⟩⟩
theorem Inv.tail {w0 w : World} {A : HProp} {L : List HProp} (hi : Inv w0 (A :: L) w) : Inv w0 L w :=
  ⟨hi.below, let ⟨h, a, _, _, _, _, l2, _, k⟩ := hi.heap; ⟨h, a, sats_mono l2 k⟩⟩
theorem Inv.right {w0 w : World} {L M : List HProp} (hi : Inv w0 (L ++ M) w) : Inv w0 M w :=
  ⟨hi.below, let ⟨h, a, k⟩ := hi.heap; let ⟨_, _, _, _, l2, _, k2⟩ := sats_append.1 k; ⟨h, a, sats_mono l2 k2⟩⟩
theorem Inv.start (w : World) : Inv w [] w := ⟨Below.refl _ _, ⟨fun _ => none, ⟨fun _ _ e => (by simp at e), trivial⟩⟩⟩
theorem Inv.opn {w0 w : World} {A : HProp} {L : List HProp} {ι : Sort _} {K : ι → Prop} {B : ι → List HProp} (hA : ∀ h, A w0 h → ∃ i, K i ∧ sats w0 (B i) h) (hi : Inv w0 (A :: L) w) : ∃ i, K i ∧ Inv w0 (B i ++ L) w := by
  obtain ⟨hb, h, a, h1, h2, d, l1, l2, p, k⟩ := hi
  obtain ⟨i, c, s⟩ := hA h1 p
  exact ⟨i, c, hb, h, a, sats_append.2 ⟨h1, h2, d, l1, l2, s, k⟩⟩
theorem Inv.cls {w0 w : World} {A : HProp} {B L : List HProp} (hA : ∀ h, sats w0 B h → A w0 h) (hi : Inv w0 (B ++ L) w) : Inv w0 (A :: L) w := by
  obtain ⟨hb, h, a, k⟩ := hi
  obtain ⟨h1, h2, d, l1, l2, k1, k2⟩ := sats_append.1 k
  exact ⟨hb, h, a, h1, h2, d, l1, l2, hA h1 k1, k2⟩
theorem Inv.imp {w0 w : World} {A B : HProp} {L : List HProp} (hA : ∀ h, A w0 h → B w0 h) (hi : Inv w0 (A :: L) w) : Inv w0 (B :: L) w := by
  obtain ⟨hb, h, a, h1, h2, d, l1, l2, p, k⟩ := hi
  exact ⟨hb, h, a, h1, h2, d, l1, l2, hA _ p, k⟩
def Mk (e : Bool) (n : Nat) : Nat × Nat := cond e (n, n + 1) (0, 0)
def Cel (b : Nat) (T : TypeId) (cs : List Value) : HProp := fun _ h => ∃ e, h b = some (.cells cs.toArray T (Mk e cs.length))
theorem Cel.mono {b : Nat} {T : TypeId} {cs : List Value} {w0 : World} {g h : Hp} (l : Hp.le g h) (c : Cel b T cs w0 g) : Cel b T cs w0 h := let ⟨e, p⟩ := c; ⟨e, l _ _ p⟩
def Pr (p : Prop) : HProp := fun _ _ => p
def Star (l : List HProp) : HProp := fun w0 h => sats w0 l h
theorem Inv.unstar {w0 w : World} {l L : List HProp} (hi : Inv w0 (Star l :: L) w) : Inv w0 (l ++ L) w :=
  let ⟨_, _, k⟩ := Inv.opn (ι := Unit) (K := fun _ => True) (B := fun _ => l) (fun h s => ⟨(), trivial, s⟩) hi; k
theorem Inv.star {w0 w : World} {l L : List HProp} (hi : Inv w0 (l ++ L) w) : Inv w0 (Star l :: L) w := Inv.cls (fun _ s => s) hi
theorem Inv.cel_ge {w0 w : World} {b : Nat} {T : TypeId} {cs : List Value} {L : List HProp} (hi : Inv w0 (Cel b T cs :: L) w) : w0.heap.size ≤ b :=
  let ⟨_, _, a, _, _, _, l1, _, ⟨_, p⟩, _⟩ := hi; (a _ _ (l1 _ _ p)).1
theorem Inv.cel_block {w0 w : World} {b : Nat} {T : TypeId} {cs : List Value} {L : List HProp} (hi : Inv w0 (Cel b T cs :: L) w) : ∃ e, w.heap[b]? = some (.cells cs.toArray T (Mk e cs.length)) :=
  let ⟨_, _, a, _, _, _, l1, _, ⟨e, p⟩, _⟩ := hi; ⟨e, (a _ _ (l1 _ _ p)).2⟩
theorem Inv.cel_cell {w0 w : World} {b : Nat} {T : TypeId} {cs : List Value} {L : List HProp} (hi : Inv w0 (Cel b T cs :: L) w) (o : Nat) : w.cell? ⟨b, o, none⟩ = cs[o]? := by
  obtain ⟨e, h⟩ := hi.cel_block
  simp [World.cell?, h]
theorem Inv.cel_frozen {w0 w : World} {b : Nat} {T : TypeId} {cs : List Value} {L : List HProp} (hi : Inv w0 (Cel b T cs :: L) w) (o : Nat) (ho : o < cs.length) : w.frozen? ⟨b, o, none⟩ = false := by
  obtain ⟨e, h⟩ := hi.cel_block
  cases e
  · simp [World.frozen?, h, Mk]
  · simp [World.frozen?, h, Mk]; omega
theorem Inv.alloc {w0 w : World} {L : List HProp} (hi : Inv w0 L w) (T : TypeId) (cs : List Value) : Inv w0 (Cel w.heap.size T cs :: L) (w.alloc (.cells cs.toArray T)) := by
  obtain ⟨hb, h, a, k⟩ := hi
  have hd : Hp.disj (fun b => if b = w.heap.size then some (Obj.cells cs.toArray T (0, 0)) else none) h := fun n => by
    by_cases e : n = w.heap.size
    · right
      cases hn : h n with
      | none => rfl
      | some o =>
        have := (a n o hn).2
        rw [e] at this
        simp at this
    · left; simp [e]
  refine ⟨hb.alloc hb.size _, Hp.join _ h, ?_, _, h, hd, Hp.le_join_left _ _, Hp.le_join_right hd, ⟨false, by simp [Mk]⟩, k⟩
  intro b o e
  unfold Hp.join at e
  by_cases hbs : b = w.heap.size
  · subst hbs
    simp at e
    subst e
    exact ⟨hb.size, by show (w.heap.push _)[w.heap.size]? = _; simp⟩
  · simp [hbs] at e
    obtain ⟨g1, g2⟩ := a b o e
    refine ⟨g1, ?_⟩
    show (w.heap.push _)[b]? = _
    rw [Array.getElem?_push, if_neg hbs]
    exact g2
theorem Inv.write {w0 w w' : World} {b : Nat} {T : TypeId} {cs cs' : List Value} {L : List HProp} (hi : Inv w0 (Cel b T cs :: L) w)
    (hos : w'.os = w.os) (ht : w'.tape = w.tape) (ho : w'.output = w.output) (hs : w.heap.size ≤ w'.heap.size)
    {e' : Bool} (hblk : w'.heap[b]? = some (.cells cs'.toArray T (Mk e' cs'.length))) (hoth : ∀ k, k ≠ b → k < w.heap.size → w'.heap[k]? = w.heap[k]?) : Inv w0 (Cel b T cs' :: L) w' := by
  have hge := hi.cel_ge
  obtain ⟨hb, h, a, h1, h2, d, l1, l2, ⟨_, p⟩, k⟩ := hi
  have hlt : ∀ j o, w.heap[j]? = some o → j < w.heap.size := fun j o e => by
    rcases Nat.lt_or_ge j w.heap.size with h | h
    · exact h
    · simp [Array.getElem?_eq_none h] at e
  have hd : Hp.disj (fun n => if n = b then some (Obj.cells cs'.toArray T (Mk e' cs'.length)) else none) h2 := fun n => by
    by_cases e : n = b
    · right
      rcases d n with x | x
      · rw [e, p] at x; cases x
      · exact x
    · left; simp [e]
  refine ⟨hb.trans ⟨hos, ht, ho, hs, fun j hj => ?_⟩, Hp.join _ h2, ?_, _, h2, hd, Hp.le_join_left _ _, Hp.le_join_right hd, ⟨e', by simp⟩, k⟩
  · have := hb.size
    exact hoth j (by omega) (by omega)
  · intro j o e
    unfold Hp.join at e
    by_cases hj : j = b
    · subst hj
      simp at e
      subst e
      exact ⟨hge, hblk⟩
    · simp [hj] at e
      obtain ⟨g1, g2⟩ := a j o (l2 j o e)
      exact ⟨g1, by rw [hoth j hj (hlt j o g2)]; exact g2⟩
theorem Inv.setCell {w0 w : World} {b : Nat} {T : TypeId} {cs : List Value} {L : List HProp} (hi : Inv w0 (Cel b T cs :: L) w) (o : Nat) (v : Value) : Inv w0 (Cel b T (cs.set o v) :: L) (w.setCell ⟨b, o, none⟩ v) := by
  obtain ⟨e, hbl⟩ := hi.cel_block
  refine hi.write (e' := e) rfl rfl rfl (by simp) ?_ ?_
  · simp [World.setCell, Array.getElem?_modify, hbl]
  · intro k hk _
    exact Below.heap_setCell _ _ _ _ hk
theorem Inv.drew {w0 w : World} {L : List HProp} (hi : Inv w0 L w) : Inv w0 L w.drew :=
  ⟨hi.below.drew, hi.heap⟩
abbrev Env := List (Nat × Value)
def Env.get : Env → Nat → Option Value
  | [], _ => none
  | (k, v) :: E, d => cond (Nat.beq k d) (some v) (Env.get E d)
structure Ctx where
  P : Program
  w0 : World
  n : Nat
  D : List Deferred
  X : List PanicEntry → List HProp → Prop
structure Agr (C : Ctx) (E : Env) (a : Act) : Prop where
  defers : a.defers = C.D
  size : a.tmps.size = C.n
  get : ∀ d v, E.get d = some v → a.tmps[d]? = some v
def evalE (E : Env) : Operand → Option Value
  | .tmp t => E.get t
  | .const v => some v
  | .global g => some (.pointer (some ⟨g, 0, none⟩))
  | .func f => some (.func (.func f) #[] #[])
theorem Agr.eval {C : Ctx} {E : Env} {a : Act} (h : Agr C E a) {x : Operand} {v : Value} (e : evalE E x = some v) : a.eval x = v := by
  cases x with
  | tmp t => simp only [evalE] at e; simp [Act.eval, h.get t v e]
  | const u => simpa [evalE, Act.eval] using e
  | global g => simpa [evalE, Act.eval] using e
  | func f => simpa [evalE, Act.eval] using e
theorem Env.get_cons (k : Nat) (v : Value) (E : Env) (d : Nat) : Env.get ((k, v) :: E) d = if k = d then some v else Env.get E d := by
  simp only [Env.get]
  by_cases h : k = d
  · subst h; simp
  · have : Nat.beq k d = false := by
      cases hb : Nat.beq k d with
      | false => rfl
      | true => exact absurd (Nat.eq_of_beq_eq_true hb) h
    simp [this, h]
theorem Agr.put {C : Ctx} {E : Env} {a : Act} (h : Agr C E a) {d : Nat} (hd : d < C.n) (v : Value) : Agr C ((d, v) :: E) (a.put (some d) v) := by
  refine ⟨h.defers, by simp [Act.put, h.size], fun k u e => ?_⟩
  rw [Env.get_cons] at e
  simp only [Act.put, Array.getElem?_setIfInBounds]
  by_cases hk : d = k
  · subst hk
    simp at e
    simp [h.size, hd, e]
  · simp only [hk, if_false] at e ⊢
    exact h.get k u e
def Le (E' E : Env) : Prop := ∀ d v, E'.get d = some v → E.get d = some v
theorem Agr.le {C : Ctx} {E E' : Env} {a : Act} (h : Agr C E a) (l : Le E' E) : Agr C E' a := ⟨h.defers, h.size, fun d v e => h.get d v (l d v e)⟩
theorem Le.refl (E : Env) : Le E E := fun _ _ e => e
theorem Le.nil (E : Env) : Le [] E := fun _ _ e => by cases e
theorem Le.cons {E E' : Env} {d : Nat} {v : Value} (h : E.get d = some v) (l : Le E' E) : Le ((d, v) :: E') E := fun k u e => by
  rw [Env.get_cons] at e
  by_cases hk : d = k
  · subst hk; simp at e; rw [← e]; exact h
  · simp only [hk, if_false] at e; exact l k u e
abbrev QT := Exit → Env → List HProp → Prop
def Qh (C : Ctx) (Q : QT) : Exit → Act → World → Prop := fun e a w => ∃ E L, Agr C E a ∧ Inv C.w0 L w ∧ Q e E L
def Wp (C : Ctx) (c : Code) (Q : QT) (E : Env) (L : List HProp) : Prop := ∀ a w, Agr C E a → Inv C.w0 L w → c.wp C.P (Qh C Q) a w
def Ops (C : Ctx) (ops : Array Oper) (l : List Oper) (Q : QT) (E : Env) (L : List HProp) : Prop := ∀ a w, Agr C E a → Inv C.w0 L w → wpList C.P ops (Qh C Q) l a w
def thn (k : Env → List HProp → Prop) (Q : QT) : QT := fun e E L => match e with | .normal => k E L | e => Q e E L
def blk (id : Nat) (Q : QT) : QT := fun e E L => match e with | .exit i => cond (Nat.beq i id) (Q .normal E L) (Q (.exit i) E L) | e => Q e E L
section
variable {C : Ctx} {Q : QT} {E : Env} {L : List HProp}
theorem Wp.mono {c : Code} {Q' : QT} (h : Wp C c Q E L) (hq : ∀ e E L, Q e E L → Q' e E L) : Wp C c Q' E L :=
  fun a w ha hi => Code.wp_mono (fun e a w ⟨E, L, x, y, z⟩ => ⟨E, L, x, y, hq e E L z⟩) (h a w ha hi)
theorem Wp.weaken {c : Code} {E' : Env} {L' : List HProp} (h : Wp C c Q E' L') (l : Le E' E) (hp : L.Perm L') : Wp C c Q E L :=
  fun a w ha hi => h a w (ha.le l) (hi.perm hp)
theorem w_keep {c : Code} (E' : Env) (l : Le E' E) (h : Wp C c Q E' L) : Wp C c Q E L := h.weaken l (List.Perm.refl _)
theorem w_opn {c : Code} {A : HProp} {ι : Sort _} {K : ι → Prop} {B : ι → List HProp} (hA : ∀ h, A C.w0 h → ∃ i, K i ∧ sats C.w0 (B i) h)
    (k : ∀ i, K i → Wp C c Q E (B i ++ L)) : Wp C c Q E (A :: L) := fun a w ha hi => let ⟨i, c, s⟩ := hi.opn hA; k i c a w ha s
theorem w_seq {x y : Code} (h : Wp C x (thn (fun E L => Wp C y Q E L) Q) E L) : Wp C (.seq x y) Q E L := fun a w ha hi =>
  Go.wp_seq (Code.wp_mono (fun e a w ⟨E, L, ha, hi, q⟩ => by
    cases e with
    | normal => exact q a w ha hi
    | exit _ => exact ⟨E, L, ha, hi, q⟩
    | goto _ => exact ⟨E, L, ha, hi, q⟩
    | ret => exact ⟨E, L, ha, hi, q⟩
    | panic _ => exact ⟨E, L, ha, hi, q⟩
    | outgrown => exact ⟨E, L, ha, hi, q⟩) (h a w ha hi))
theorem thn_n {k : Env → List HProp → Prop} (h : k E L) : thn k Q .normal E L := h
theorem w_skip (h : Q .normal E L) : Wp C .skip Q E L := fun a w ha hi => Go.wp_skip ⟨E, L, ha, hi, h⟩
theorem w_ret (h : Q .ret E L) : Wp C .ret Q E L := fun a w ha hi => Go.wp_ret ⟨E, L, ha, hi, h⟩
theorem w_exit {id : Nat} (h : Q (.exit id) E L) : Wp C (.exit id) Q E L := fun a w ha hi => Go.wp_exit ⟨E, L, ha, hi, h⟩
theorem w_block {id : Nat} {c : Code} (h : Wp C c (blk id Q) E L) : Wp C (.block id c) Q E L := fun a w ha hi =>
  Go.wp_block (Code.wp_mono (fun e a w ⟨E, L, ha, hi, q⟩ => by
    cases e with
    | exit i =>
      simp only [blk] at q
      simp only [Exit.inBlock]
      by_cases hid : i = id
      · subst hid
        simp at q ⊢
        exact ⟨E, L, ha, hi, q⟩
      · have : Nat.beq i id = false := by
          cases hb : Nat.beq i id with
          | false => rfl
          | true => exact absurd (Nat.eq_of_beq_eq_true hb) hid
        simp [this] at q
        simp only [hid, if_false]
        exact ⟨E, L, ha, hi, q⟩
    | normal => exact ⟨E, L, ha, hi, q⟩
    | goto _ => exact ⟨E, L, ha, hi, q⟩
    | ret => exact ⟨E, L, ha, hi, q⟩
    | panic _ => exact ⟨E, L, ha, hi, q⟩
    | outgrown => exact ⟨E, L, ha, hi, q⟩) (h a w ha hi))
theorem w_cond {c : Operand} {x y : Code} {b : Bool} (hc : evalE E c = some (.bool b)) (ht : b = true → Wp C x Q E L) (hf : b = false → Wp C y Q E L) : Wp C (.cond c x y) Q E L :=
  fun a w ha hi => Go.wp_cond_split (ha.eval hc) (fun e => ht e a w ha hi) (fun e => hf e a w ha hi)
theorem w_condT {c : Operand} {x y : Code} (hc : evalE E c = some (.bool true)) (h : Wp C x Q E L) : Wp C (.cond c x y) Q E L :=
  fun a w ha hi => Go.wp_cond_true (ha.eval hc) (h a w ha hi)
theorem w_condF {c : Operand} {x y : Code} (hc : evalE E c = some (.bool false)) (h : Wp C y Q E L) : Wp C (.cond c x y) Q E L :=
  fun a w ha hi => Go.wp_cond_false (ha.eval hc) (h a w ha hi)
theorem w_condD {c : Operand} {x y : Code} {p : Prop} [Decidable p] (hc : evalE E c = some (.bool (decide p))) (ht : p → Wp C x Q E L) (hf : ¬ p → Wp C y Q E L) : Wp C (.cond c x y) Q E L :=
  w_cond hc (fun e => ht (of_decide_eq_true e)) (fun e => hf (of_decide_eq_false e))
theorem w_loop {c : Code} (R : Nat → Env → List HProp → Prop) (m : Nat) (h0 : R m E L)
    (h : ∀ m E L, R m E L → Wp C c (thn (fun E' L' => ∃ m', m' < m ∧ R m' E' L') Q) E L) : Wp C (.loop c) Q E L := by
  intro a w ha hi b k cs
  have key : ∀ n a w, (∃ E L, Agr C E a ∧ Inv C.w0 L w ∧ R n E L) →
      ∃ e a' w', Qh C Q e a' w' ∧ Arrives C.P (lone (b.at a (.code c :: .inLoop c :: k)) cs w) b k cs e a' w' := by
    intro n
    induction n using Nat.strongRecOn with
    | _ n ih =>
      rintro a w ⟨E, L, ha, hi, hR⟩
      obtain ⟨e, a₁, w₁, hq, harr⟩ := h n E L hR a w ha hi b (.inLoop c :: k) cs
      cases e with
      | normal =>
        obtain ⟨E₁, L₁, ha₁, hi₁, m', hlt, hR₁⟩ := hq
        obtain ⟨e₂, a₂, w₂, hq₂, harr₂⟩ := ih m' hlt a₁ w₁ ⟨E₁, L₁, ha₁, hi₁, hR₁⟩
        exact ⟨e₂, a₂, w₂, hq₂, .of_steps (Steps.trans harr (.one step_inLoop)) harr₂⟩
      | exit id => exact ⟨_, a₁, w₁, hq, .pass (x := .inLoop c) rfl (fun _ _ => .inl (by simp)) harr⟩
      | goto l => exact ⟨_, a₁, w₁, hq, .pass (x := .inLoop c) rfl (fun _ _ => .inl (by simp)) harr⟩
      | ret => exact ⟨_, a₁, w₁, hq, .pass (x := .inLoop c) rfl (fun _ _ => .inl (by simp)) harr⟩
      | panic ch => exact ⟨_, a₁, w₁, hq, .pass (x := .inLoop c) rfl (fun _ _ => .inl (by simp)) harr⟩
      | outgrown => exact ⟨_, a₁, w₁, hq, .pass (x := .inLoop c) rfl (fun _ _ => .inl (by simp)) harr⟩
  obtain ⟨e, a', w', hq, harr⟩ := key m a w ⟨E, L, ha, hi, h0⟩
  exact ⟨e, a', w', hq, .of_steps (.one step_loop) harr⟩
end
end Go.Sl
namespace Go.Sl
open Go.RowKit (Below)
def scalarB (P : Program) (t : TypeId) : Bool := match P.underlying t with | some (.struct _) => false | some (.array _ _) => false | some _ => (match P.info? t with | some i => Nat.beq i.size 1 | none => false) | none => false
def aggB (P : Program) (t : TypeId) : Option Nat := match P.underlying t with | some (.struct _) => (P.info? t).map (·.size) | some (.array _ _) => (P.info? t).map (·.size) | _ => none
def zeroB (P : Program) (t : TypeId) : Option (List Value) := match P.info? t with | some i => (match i.zero with | some z => cond (Nat.beq z.cells.size i.size) (some z.cells.toList) none | none => none) | none => none
def fieldB (P : Program) (s f : Nat) : Option Nat := match P.underlying s with
  | some (.struct fs) => (match fs[f]? with | some fd => (match P.info? fd.type with | some i => cond (Nat.beq i.size 0) none (some fd.offset) | none => none) | none => none)
  | _ => none
def sliceB (P : Program) (t : TypeId) : Option (TypeId × Nat × Nat) := match P.underlying t with
  | some (.slice e) => (match P.info? e with | some i => some (e, i.size, i.bytes) | none => none)
  | _ => none
def arrayB (P : Program) (t : TypeId) : Option (Nat × TypeId × Nat) := match P.underlying t with
  | some (.array n e) => (match P.info? e with | some i => some (n, e, i.size) | none => none)
  | _ => none
def undB (P : Program) (t : TypeId) : Bool := (P.underlying t).isSome
def intB (P : Program) (t : TypeId) (k : IntKind) : Prop := P.underlying t = some (.int k)
def bodyB (P : Program) (f : FuncId) : Bool := match P.funcs[f]? with | some fn => fn.body.isSome && !(fn.name == "runtime.NumGoroutine") | none => false
theorem run_isAgg_scalar {P : Program} {t : TypeId} (h : scalarB P t = true) (w : World) : (isAgg t).run P w = .ok false w := by
  unfold scalarB at h
  unfold isAgg
  split at h <;> simp_all [run_underlying]
theorem run_sizeOf {P : Program} {t : TypeId} {i : TypeInfo} (h : P.info? t = some i) (w : World) : (sizeOf t).run P w = .ok i.size w := by
  simp [sizeOf, typeInfo, h]
theorem scalar_info {P : Program} {t : TypeId} (h : scalarB P t = true) : ∃ i, P.info? t = some i ∧ i.size = 1 := by
  unfold scalarB at h
  split at h <;> try simp at h
  split at h
  · rename_i i hi; exact ⟨i, hi, Nat.eq_of_beq_eq_true h⟩
  · simp at h
theorem agg_spec {P : Program} {t n : Nat} (h : aggB P t = some n) (w : World) : (isAgg t).run P w = .ok true w ∧ (sizeOf t).run P w = .ok n w := by
  unfold aggB at h
  unfold isAgg
  split at h <;> try simp at h
  all_goals
    obtain ⟨i, hi, rfl⟩ := h
    exact ⟨by simp_all [run_underlying], run_sizeOf hi w⟩
theorem zero_spec {P : Program} {t : Nat} {zs : List Value} (h : zeroB P t = some zs) : ∃ i z, P.info? t = some i ∧ i.zero = some z ∧ z.cells = zs.toArray ∧ i.size = zs.length := by
  unfold zeroB at h
  split at h <;> try simp at h
  rename_i i hi
  split at h <;> try simp at h
  rename_i z hz
  by_cases hs : Nat.beq z.cells.size i.size = true
  · simp [hs] at h
    subst h
    exact ⟨i, z, hi, hz, by simp, by simpa using (Nat.eq_of_beq_eq_true hs).symm⟩
  · simp [hs] at h
theorem field_spec {P : Program} {s f o : Nat} (h : fieldB P s f = some o) : ∃ fs fd i, P.underlying s = some (.struct fs) ∧ fs[f]? = some fd ∧ P.info? fd.type = some i ∧ i.size ≠ 0 ∧ fd.offset = o := by
  unfold fieldB at h
  split at h <;> try simp at h
  rename_i fs hfs
  split at h <;> try simp at h
  rename_i fd hfd
  split at h <;> try simp at h
  rename_i i hi
  by_cases hz : Nat.beq i.size 0 = true
  · simp [hz] at h
  · simp [hz] at h
    refine ⟨fs, fd, i, hfs, hfd, hi, ?_, h⟩
    intro e
    rw [e] at hz
    exact hz rfl
theorem slice_spec {P : Program} {t e sz by_ : Nat} (h : sliceB P t = some (e, sz, by_)) : P.underlying t = some (.slice e) ∧ ∃ i, P.info? e = some i ∧ i.size = sz ∧ i.bytes = by_ := by
  unfold sliceB at h
  split at h <;> try simp at h
  rename_i e' he
  split at h <;> try simp at h
  rename_i i hi
  obtain ⟨rfl, rfl, rfl⟩ := h
  exact ⟨he, i, hi, rfl, rfl⟩
theorem array_spec {P : Program} {t n e sz : Nat} (h : arrayB P t = some (n, e, sz)) : P.underlying t = some (.array n e) ∧ ∃ i, P.info? e = some i ∧ i.size = sz := by
  unfold arrayB at h
  split at h <;> try simp at h
  rename_i n' e' he
  split at h <;> try simp at h
  rename_i i hi
  obtain ⟨rfl, rfl, rfl⟩ := h
  exact ⟨he, i, hi, rfl⟩
theorem blt_lt {a b : Nat} (h : Nat.blt a b = true) : a < b := Nat.le_of_ble_eq_true h
theorem Addr.add_mk (b o n : Nat) : (⟨b, o, none⟩ : Addr).add n = ⟨b, o + n, none⟩ := by
  unfold Addr.add
  split
  · rename_i h; simp [h]
  · rfl
theorem wrapI {n : Int} (h1 : -9223372036854775808 ≤ n) (h2 : n ≤ 9223372036854775807) : IntKind.i64.wrap n = n := by rw [IntKind.wrap_i64]; omega
inductive Rem : List HProp → HProp → List HProp → Prop
  | head {A : HProp} {L : List HProp} : Rem (A :: L) A L
  | tail {A B : HProp} {L F : List HProp} : Rem L A F → Rem (B :: L) A (B :: F)
theorem Rem.perm {L F : List HProp} {A : HProp} (h : Rem L A F) : L.Perm (A :: F) := by
  induction h with
  | head => exact List.Perm.refl _
  | tail _ ih => exact (List.Perm.cons _ ih).trans (List.Perm.swap _ _ _)
inductive Rep : List HProp → HProp → HProp → List HProp → Prop
  | head {A A' : HProp} {L : List HProp} : Rep (A :: L) A A' (A' :: L)
  | tail {A A' B : HProp} {L F : List HProp} : Rep L A A' F → Rep (B :: L) A A' (B :: F)
theorem Rep.perm {L L' : List HProp} {A A' : HProp} (h : Rep L A A' L') : ∃ F, L.Perm (A :: F) ∧ (A' :: F).Perm L' := by
  induction h with
  | head => exact ⟨_, List.Perm.refl _, List.Perm.refl _⟩
  | @tail A A' B L F _ ih =>
    obtain ⟨G, h1, h2⟩ := ih
    exact ⟨B :: G, (List.Perm.cons _ h1).trans (List.Perm.swap _ _ _), (List.Perm.swap _ _ _).trans (List.Perm.cons _ h2)⟩
theorem Inv.mem {w0 w : World} {L : List HProp} {A : HProp} (hi : Inv w0 L w) (hm : A ∈ L) : ∃ F, Inv w0 (A :: F) w := by
  obtain ⟨X, Y, rfl⟩ := List.append_of_mem hm
  exact ⟨X ++ Y, hi.perm List.perm_middle⟩
section
variable {C : Ctx} {Q : QT} {E : Env} {L L' : List HProp} {ops : Array Oper} {rest : List Oper} {d : Nat} {ty : TypeId} {pos : String} {aft : Array Edge} {op : Op} {v : Value}
theorem w_region {id : Nat} {l : List Oper} (h : Ops C l.toArray l Q E L) : Wp C (.region id l.toArray false) Q E L :=
  fun a w ha hi => wp_region_lit (h a w ha hi)
theorem o_nil (h : Q .normal E L) : Ops C ops [] Q E L := fun a w ha hi => wpList_nil ⟨E, L, ha, hi, h⟩
theorem o_perm (hp : L.Perm L') (h : Ops C ops rest Q E L') : Ops C ops rest Q E L := fun a w ha hi => h a w ha (hi.perm hp)
def roK : Op → Value → Bool
  | .move _, _ => true
  | .assign _, _ => true
  | .pick _ _ _, _ => true
  | .nilCheck _, _ => true
  | .load _ _, _ => true
  | .binOp _ _ _ _ _, .bool _ => true
  | .binOp _ _ _ _ _, .int _ _ => true
  | .unOp _ _ _, _ => true
  | .convert _ _ _, .int _ _ => true
  | .fieldAddr _ _ _, _ => true
  | .field _ _ _, _ => true
  | .indexAddr _ _ _, _ => true
  | .index _ _ _, _ => true
  | .extract _ _, _ => true
  | .slice _ _ _ _ _, .slice _ _ _ => true
  | .build _ _, _ => true
  | .call ⟨.builtin .len, _, _⟩, .int _ _ => true
  | .call ⟨.builtin .cap, _, _⟩, .int _ _ => true
  | .call ⟨.builtin .min, _, _⟩, .int _ _ => true
  | .call ⟨.builtin .max, _, _⟩, .int _ _ => true
  | _, _ => false
def OpV (C : Ctx) (op : Op) (ty : TypeId) (E : Env) (L : List HProp) (v : Value) (L' : List HProp) : Prop :=
  ∀ (d : Option Nat) (pos : String) (aft : Array Edge) (g : Option (Nat × Bool)) a w, Agr C E a → Inv C.w0 L w → ∃ w', ((execOp a.eval ⟨d, op, ty, pos, aft, g⟩).run C.P w = .ok (.value v) w' ∨ (execOp a.eval ⟨d, op, ty, pos, aft, g⟩).run C.P w = .ok .skip w' ∧ v = undef) ∧ Inv C.w0 L' w' ∧ (roK op v = true → (execOp a.eval ⟨d, op, ty, pos, aft, g⟩).run C.P w = .ok (.value v) w)
def OpX (C : Ctx) (op : Op) (ty : TypeId) (E : Env) (L : List HProp) (R : Value → List HProp → Prop) : Prop :=
  ∀ (d : Option Nat) (pos : String) (aft : Array Edge) (g : Option (Nat × Bool)) a w (K : Act → World → Prop) (Q : Exit → Act → World → Prop), Agr C E a → Inv C.w0 L w →
    (∀ v L' w', R v L' → Inv C.w0 L' w' → K (a.put d v) w') → (⟨d, op, ty, pos, aft, g⟩ : Oper).wp C.P a w K Q
theorem OpV.x (h : OpV C op ty E L v L') : OpX C op ty E L (fun v' M => v' = v ∧ M = L') := by
  intro d pos aft g a w K Qx ha hi hK
  obtain ⟨w', hr, hi', _⟩ := h d pos aft g a w ha hi
  unfold Oper.wp
  rcases hr with hr | ⟨hr, e⟩
  · rw [hr]; exact hK v L' w' ⟨rfl, rfl⟩ hi'
  · rw [hr]; subst e; exact hK undef L' w' ⟨rfl, rfl⟩ hi'
theorem o_val (h : OpV C op ty E L v L') (hd : Nat.blt d C.n = true) (k : Ops C ops rest Q ((d, v) :: E) L') : Ops C ops (⟨some d, op, ty, pos, aft, none⟩ :: rest) Q E L := by
  intro a w ha hi
  refine wpList_plain rfl (fun K hK => ?_)
  exact h.x _ _ _ _ a w K _ ha hi (fun v' M w' ⟨e1, e2⟩ hi' => by subst e1; subst e2; exact hK _ _ (k _ _ (ha.put (blt_lt hd) _) hi'))
theorem o_eff (h : OpV C op ty E L v L') (k : Ops C ops rest Q E L') : Ops C ops (⟨none, op, ty, pos, aft, none⟩ :: rest) Q E L := by
  intro a w ha hi
  refine wpList_plain rfl (fun K hK => ?_)
  exact h.x _ _ _ _ a w K _ ha hi (fun v' M w' ⟨e1, e2⟩ hi' => by subst e1; subst e2; exact hK _ _ (k _ _ ha hi'))
theorem o_any {R : Value → List HProp → Prop} (h : OpX C op ty E L R) (hd : Nat.blt d C.n = true) (k : ∀ v L', R v L' → Ops C ops rest Q ((d, v) :: E) L') : Ops C ops (⟨some d, op, ty, pos, aft, none⟩ :: rest) Q E L := by
  intro a w ha hi
  refine wpList_plain rfl (fun K hK => ?_)
  exact h _ _ _ _ a w K _ ha hi (fun v M w' hR hi' => hK _ _ (k v M hR _ _ (ha.put (blt_lt hd) _) hi'))
def guardE (ops : Array Oper) (E : Env) (j : Nat) : Option Bool :=
  match ops[j]? with
  | some o => (match o.dst with
    | some t => (match E.get t with | some (.bool b) => some b | _ => none)
    | none => none)
  | none => none
theorem guard_spec {a : Act} {j : Nat} {b want : Bool} {o : Oper} (ha : Agr C E a) (h : guardE ops E j = some b) (hg : o.guard = some (j, want)) : Region.wanted o (yielded ops a.tmps) = (b == want) := by
  unfold guardE at h
  split at h <;> try simp at h
  rename_i oj hj
  split at h <;> try simp at h
  rename_i t ht
  split at h <;> try simp at h
  rename_i b' hb
  subst h
  have := ha.get t _ hb
  simp [Region.wanted, hg, yielded, hj, ht, this]
theorem o_want {dst : Option Nat} {j : Nat} {want : Bool} (hg : guardE ops E j = some want) (h : Ops C ops (⟨dst, op, ty, pos, aft, none⟩ :: rest) Q E L) : Ops C ops (⟨dst, op, ty, pos, aft, some (j, want)⟩ :: rest) Q E L := by
  intro a w ha hi
  have h1 := h a w ha hi
  have hw := guard_spec (o := ⟨dst, op, ty, pos, aft, some (j, want)⟩) ha hg rfl
  unfold wpList at h1 ⊢
  rw [if_pos (by simp [Region.wanted])] at h1
  rw [if_pos (by rw [hw]; simp)]
  exact h1
theorem o_pass {j : Nat} {want b : Bool} (hg : guardE ops E j = some b) (hb : (b == want) = false) (hd : Nat.blt d C.n = true) (h : Ops C ops rest Q ((d, undef) :: E) L) : Ops C ops (⟨some d, op, ty, pos, aft, some (j, want)⟩ :: rest) Q E L := by
  intro a w ha hi
  have hw := guard_spec (o := ⟨some d, op, ty, pos, aft, some (j, want)⟩) ha hg rfl
  unfold wpList
  rw [if_neg (by rw [hw, hb]; simp)]
  exact h _ _ (ha.put (blt_lt hd) _) hi
theorem o_bool {b : Bool} (t : Nat) (ht : E.get t = some (.bool b)) (hT : b = true → Ops C ops rest Q ((t, .bool true) :: E) L) (hF : b = false → Ops C ops rest Q ((t, .bool false) :: E) L) : Ops C ops rest Q E L := by
  have key : ∀ c : Bool, b = c → Le ((t, .bool c) :: E) E := fun c e => by subst e; exact Le.cons ht (Le.refl _)
  intro a w ha hi
  cases b with
  | true => exact hT rfl a w (ha.le (key _ rfl)) hi
  | false => exact hF rfl a w (ha.le (key _ rfl)) hi
theorem o_boolD {p : Prop} [Decidable p] (t : Nat) (ht : E.get t = some (.bool (decide p))) (hT : p → Ops C ops rest Q ((t, .bool true) :: E) L) (hF : ¬ p → Ops C ops rest Q ((t, .bool false) :: E) L) : Ops C ops rest Q E L :=
  o_bool t ht (fun e => hT (of_decide_eq_true e)) (fun e => hF (of_decide_eq_false e))
theorem pureV (hr : ∀ (d : Option Nat) (pos : String) (aft : Array Edge) (g : Option (Nat × Bool)) a w, Agr C E a → (execOp a.eval ⟨d, op, ty, pos, aft, g⟩).run C.P w = .ok (.value v) w) : OpV C op ty E L v L :=
  fun d pos aft g a w ha hi => ⟨w, .inl (hr d pos aft g a w ha), hi, fun _ => hr d pos aft g a w ha⟩
theorem v_move {x : Operand} (h : evalE E x = some v) : OpV C (.move x) ty E L v L := pureV fun d pos aft g a w ha => by simp [execOp, ha.eval h]
theorem v_assign {x : Operand} (h : evalE E x = some v) : OpV C (.assign x) ty E L v L := pureV fun d pos aft g a w ha => by simp [execOp, ha.eval h]
theorem v_pickT {c x y : Operand} (hc : evalE E c = some (.bool true)) (h : evalE E x = some v) : OpV C (.pick c x y) ty E L v L := pureV fun d pos aft g a w ha => by simp [execOp, ha.eval h, ha.eval hc, asBool]
theorem v_pickF {c x y : Operand} (hc : evalE E c = some (.bool false)) (h : evalE E y = some v) : OpV C (.pick c x y) ty E L v L := pureV fun d pos aft g a w ha => by simp [execOp, ha.eval h, ha.eval hc, asBool]
theorem v_nil {x : Operand} {p : Addr} (h : evalE E x = some (.pointer (some p))) : OpV C (.nilCheck x) ty E L (.pointer (some p)) L := pureV fun d pos aft g a w ha => by simp [execOp, ha.eval h]
theorem v_not {x : Operand} {t : TypeId} {b : Bool} (h : evalE E x = some (.bool b)) : OpV C (.unOp .not t x) ty E L (.bool (!b)) L := pureV fun d pos aft g a w ha => by simp [execOp, ha.eval h, Op.unary]
theorem v_neg {x : Operand} {t : TypeId} {k : IntKind} {m n : Int} (h : evalE E x = some (.int k m)) (e : k.wrap (0 - m) = n) : OpV C (.unOp .neg t x) ty E L (.int k n) L := pureV fun d pos aft g a w ha => by simp [execOp, ha.eval h, Op.unary, Op.intArith, ← e]
theorem v_extract {x : Operand} {vs : Array Value} {i : Nat} (h : evalE E x = some (.tuple vs)) (hv : vs[i]? = some v) : OpV C (.extract x i) ty E L v L := pureV fun d pos aft g a w ha => by simp [execOp, ha.eval h, Instr.extract, hv]
section ints
variable {x y : Operand} {t t' : TypeId} {k : IntKind} {m n r : Int}
theorem run_bin {o : BinOp} {t' : TypeId} (d : Option Nat) (pos : String) (aft : Array Edge) (g : Option (Nat × Bool)) {a : Act} {w : World} {u1 u2 : Value} (hx : a.eval x = u1) (hy : a.eval y = u2) (hg : (eqGuard o t x y u1 u2).run C.P w = .ok () w) :
    (execOp a.eval ⟨d, .binOp o t x y t', ty, pos, aft, g⟩).run C.P w = ((binOp o t u1 u2).run C.P w).andThen fun v w => .ok (.value v) w := by
  simp [execOp, hx, hy, hg]
theorem eqGuard_int {o : BinOp} (w : World) : (eqGuard o t x y (.int k m) (.int k n)).run C.P w = .ok () w := by
  unfold eqGuard
  cases o <;> simp
theorem v_int {o : BinOp} (hx : evalE E x = some (.int k m)) (hy : evalE E y = some (.int k n)) (hr : ∀ w, (binOp o t (.int k m) (.int k n)).run C.P w = .ok v w) : OpV C (.binOp o t x y t') ty E L v L :=
  pureV fun d pos aft g a w ha => by rw [run_bin d pos aft g (ha.eval hx) (ha.eval hy) (eqGuard_int w), hr]; rfl
theorem v_add (hx : evalE E x = some (.int k m)) (hy : evalE E y = some (.int k n)) (e : k.wrap (m + n) = r) : OpV C (.binOp .add t x y t') ty E L (.int k r) L := v_int hx hy fun w => by simp [binOp, Op.intArith, e]
theorem v_sub (hx : evalE E x = some (.int k m)) (hy : evalE E y = some (.int k n)) (e : k.wrap (m - n) = r) : OpV C (.binOp .sub t x y t') ty E L (.int k r) L := v_int hx hy fun w => by simp [binOp, Op.intArith, e]
theorem v_mul (hx : evalE E x = some (.int k m)) (hy : evalE E y = some (.int k n)) (e : k.wrap (m * n) = r) : OpV C (.binOp .mul t x y t') ty E L (.int k r) L := v_int hx hy fun w => by simp [binOp, Op.intArith, e]
theorem v_quo (hx : evalE E x = some (.int k m)) (hy : evalE E y = some (.int k n)) (h0 : n ≠ 0) (e : k.wrap (m.tdiv n) = r) : OpV C (.binOp .quo t x y t') ty E L (.int k r) L := v_int hx hy fun w => by simp [binOp, Op.intDiv, h0, e]
theorem v_rem (hx : evalE E x = some (.int k m)) (hy : evalE E y = some (.int k n)) (h0 : n ≠ 0) (e : m.tmod n = r) : OpV C (.binOp .rem t x y t') ty E L (.int k r) L := v_int hx hy fun w => by simp [binOp, Op.intDiv, h0, e]
theorem v_and (hx : evalE E x = some (.int k m)) (hy : evalE E y = some (.int k n)) (e : k.wrap ((BitVec.ofInt k.bits m &&& BitVec.ofInt k.bits n).toNat : Int) = r) : OpV C (.binOp .and t x y t') ty E L (.int k r) L := v_int hx hy fun w => by rw [← e]; simp [binOp, Op.intBits]
theorem v_or (hx : evalE E x = some (.int k m)) (hy : evalE E y = some (.int k n)) (e : k.wrap ((BitVec.ofInt k.bits m ||| BitVec.ofInt k.bits n).toNat : Int) = r) : OpV C (.binOp .or t x y t') ty E L (.int k r) L := v_int hx hy fun w => by rw [← e]; simp [binOp, Op.intBits]
theorem v_xor (hx : evalE E x = some (.int k m)) (hy : evalE E y = some (.int k n)) (e : k.wrap ((BitVec.ofInt k.bits m ^^^ BitVec.ofInt k.bits n).toNat : Int) = r) : OpV C (.binOp .xor t x y t') ty E L (.int k r) L := v_int hx hy fun w => by rw [← e]; simp [binOp, Op.intBits]
theorem v_andNot (hx : evalE E x = some (.int k m)) (hy : evalE E y = some (.int k n)) (e : k.wrap ((BitVec.ofInt k.bits m &&& ~~~ BitVec.ofInt k.bits n).toNat : Int) = r) : OpV C (.binOp .andNot t x y t') ty E L (.int k r) L := v_int hx hy fun w => by rw [← e]; simp [binOp, Op.intBits]
theorem v_shl {k' : IntKind} (hx : evalE E x = some (.int k m)) (hy : evalE E y = some (.int k' n)) (h0 : 0 ≤ n) (e : k.wrap (m * 2 ^ (min n.toNat k.bits)) = r) : OpV C (.binOp .shl t x y t') ty E L (.int k r) L :=
  pureV fun d pos aft g a w ha => by
    rw [run_bin d pos aft g (ha.eval hx) (ha.eval hy) (by simp [eqGuard])]
    simp [binOp, Op.shift, Int.not_lt.2 h0, ← e]
theorem v_shr {k' : IntKind} (hx : evalE E x = some (.int k m)) (hy : evalE E y = some (.int k' n)) (h0 : 0 ≤ n) (e : m.fdiv (2 ^ (min n.toNat k.bits)) = r) : OpV C (.binOp .shr t x y t') ty E L (.int k r) L :=
  pureV fun d pos aft g a w ha => by
    rw [run_bin d pos aft g (ha.eval hx) (ha.eval hy) (by simp [eqGuard])]
    simp [binOp, Op.shift, Int.not_lt.2 h0, ← e]
theorem v_lss (hx : evalE E x = some (.int k m)) (hy : evalE E y = some (.int k n)) : OpV C (.binOp .lss t x y t') ty E L (.bool (decide (m < n))) L := v_int hx hy fun w => by simp [binOp, Op.intCmp]
theorem v_leq (hx : evalE E x = some (.int k m)) (hy : evalE E y = some (.int k n)) : OpV C (.binOp .leq t x y t') ty E L (.bool (decide (m ≤ n))) L := v_int hx hy fun w => by simp [binOp, Op.intCmp]
theorem v_gtr (hx : evalE E x = some (.int k m)) (hy : evalE E y = some (.int k n)) : OpV C (.binOp .gtr t x y t') ty E L (.bool (decide (n < m))) L := v_int hx hy fun w => by simp [binOp, Op.intCmp]
theorem v_geq (hx : evalE E x = some (.int k m)) (hy : evalE E y = some (.int k n)) : OpV C (.binOp .geq t x y t') ty E L (.bool (decide (n ≤ m))) L := v_int hx hy fun w => by simp [binOp, Op.intCmp]
theorem v_eql (hx : evalE E x = some (.int k m)) (hy : evalE E y = some (.int k n)) : OpV C (.binOp .eql t x y t') ty E L (.bool (decide (m = n))) L := v_int hx hy fun w => by
  simp [binOp, Op.intCmp]; rw [Bool.eq_iff_iff]; simp
theorem v_neq (hx : evalE E x = some (.int k m)) (hy : evalE E y = some (.int k n)) : OpV C (.binOp .neq t x y t') ty E L (.bool (decide (m ≠ n))) L := v_int hx hy fun w => by
  simp [binOp, Op.intCmp]; rw [Bool.eq_iff_iff]; simp
theorem v_conv {src dst : TypeId} {k' : IntKind} (hs : undB C.P src = true) (hd : C.P.underlying dst = some (.int k')) (hx : evalE E x = some (.int k m)) (e : k'.wrap m = r) : OpV C (.convert src dst x) ty E L (.int k' r) L :=
  pureV fun d pos aft g a w ha => by
    simp only [execOp, ha.eval hx]
    have := run_convert_int (P := C.P) (w := w) src dst k m
    unfold undB at hs
    obtain ⟨ds, hds⟩ := Option.isSome_iff_exists.1 hs
    simp [convert, run_underlying hds, run_underlying hd, Conv.intToInt, e]
end ints
theorem run_equal_bool {t : TypeId} {b c : Bool} (ht : C.P.underlying t = some .bool) (d : Nat) (w : World) : (Op.equalIn (d + 1) t (.bool b) (.bool c)).run C.P w = .ok (b == c) w := by
  simp [Op.equalIn, run_underlying ht]
theorem run_equal_nil {t e : TypeId} {p : Option Addr} (ht : C.P.underlying t = some (.pointer e)) (d : Nat) (w : World) : (Op.equalIn (d + 1) t (.pointer p) (.pointer none)).run C.P w = .ok p.isNone w := by
  cases p <;> simp [Op.equalIn, run_underlying ht]
theorem v_eqb {x y : Operand} {t t' : TypeId} {b c : Bool} (ht : C.P.underlying t = some .bool) (hx : evalE E x = some (.bool b)) (hy : evalE E y = some (.bool c)) : OpV C (.binOp .eql t x y t') ty E L (.bool (b == c)) L :=
  pureV fun d pos aft g a w ha => by
    rw [run_bin d pos aft g (ha.eval hx) (ha.eval hy) (by simp [eqGuard])]
    have h := run_equal_bool ht (b := b) (c := c) 9999 w
    simp only [binOp, Op.equal, Op.maxDepth, Sem.run_bind, h, Result.andThen_ok, Sem.run_pure]
theorem v_neb {x y : Operand} {t t' : TypeId} {b c : Bool} (ht : C.P.underlying t = some .bool) (hx : evalE E x = some (.bool b)) (hy : evalE E y = some (.bool c)) : OpV C (.binOp .neq t x y t') ty E L (.bool (b != c)) L :=
  pureV fun d pos aft g a w ha => by
    rw [run_bin d pos aft g (ha.eval hx) (ha.eval hy) (by simp [eqGuard])]
    have h := run_equal_bool ht (b := b) (c := c) 9999 w
    simp only [binOp, Op.equal, Op.maxDepth, Sem.run_bind, h, Result.andThen_ok, Sem.run_pure, bne]
theorem v_eqnil {x y : Operand} {t t' e : TypeId} {p : Option Addr} (ht : C.P.underlying t = some (.pointer e)) (hx : evalE E x = some (.pointer p)) (hy : evalE E y = some (.pointer none)) : OpV C (.binOp .eql t x y t') ty E L (.bool p.isNone) L :=
  pureV fun d pos aft g a w ha => by
    rw [run_bin d pos aft g (ha.eval hx) (ha.eval hy) (by simp [eqGuard])]
    have h := run_equal_nil ht (p := p) 9999 w
    simp only [binOp, Op.equal, Op.maxDepth, Sem.run_bind, h, Result.andThen_ok, Sem.run_pure]
theorem v_nenil {x y : Operand} {t t' e : TypeId} {p : Option Addr} (ht : C.P.underlying t = some (.pointer e)) (hx : evalE E x = some (.pointer p)) (hy : evalE E y = some (.pointer none)) : OpV C (.binOp .neq t x y t') ty E L (.bool (!p.isNone)) L :=
  pureV fun d pos aft g a w ha => by
    rw [run_bin d pos aft g (ha.eval hx) (ha.eval hy) (by simp [eqGuard])]
    have h := run_equal_nil ht (p := p) 9999 w
    simp only [binOp, Op.equal, Op.maxDepth, Sem.run_bind, h, Result.andThen_ok, Sem.run_pure]
theorem v_fieldAddr {x : Operand} {s f o b p : Nat} (ht : fieldB C.P s f = some o) (h : evalE E x = some (.pointer (some ⟨b, p, none⟩))) : OpV C (.fieldAddr s x f) ty E L (.pointer (some ⟨b, p + o, none⟩)) L :=
  pureV fun d pos aft g a w ha => by
    obtain ⟨fs, fd, i, h1, h2, h3, h4, rfl⟩ := field_spec ht
    simp [execOp, ha.eval h, Instr.fieldAt, run_underlying h1, h2, Instr.sureAddr, fieldPlace, run_sizeOf h3, h4, Addr.add_mk]
theorem v_field {x : Operand} {s f o n : Nat} {cs : Array Value} {ft : TypeId} (ht : fieldB C.P s f = some o) (hft : ∃ fs fd, C.P.underlying s = some (.struct fs) ∧ fs[f]? = some fd ∧ fd.type = ft) (hs : scalarB C.P ft = true) (h : evalE E x = some (.agg cs)) (hv : cs[o]? = some v) : OpV C (.field s x f) ty E L v L :=
  pureV fun d pos aft g a w ha => by
    obtain ⟨fs, fd, i, h1, h2, h3, h4, rfl⟩ := field_spec ht
    obtain ⟨fs', fd', h1', h2', rfl⟩ := hft
    rw [h1] at h1'
    cases h1'
    rw [h2] at h2'
    cases h2'
    simp [execOp, ha.eval h, Instr.field, run_underlying h1, h2, asAgg, part, run_isAgg_scalar hs, hv]
theorem v_index {x ix : Operand} {t e sz by_ b p len cap : Nat} {k : IntKind} {i : Int} (j : Nat) (hj : i = (j : Int)) (ht : sliceB C.P t = some (e, sz, by_)) (h : evalE E x = some (.slice (some ⟨b, p, none⟩) len cap)) (hi : evalE E ix = some (.int k i)) (hlt : j < len) : OpV C (.indexAddr t x ix) ty E L (.pointer (some ⟨b, p + j * sz, none⟩)) L :=
  pureV fun d pos aft g a w ha => by
    obtain ⟨h1, i', h2, h3, h4⟩ := slice_spec ht
    subst hj
    have : (j : Int) < (len : Int) := by omega
    simp [execOp, ha.eval h, ha.eval hi, Instr.indexAt, asIntOf, run_underlying h1, run_sizeOf h2, h3, hlt, Addr.add_mk]
theorem v_indexA {x ix : Operand} {t e sz n b p : Nat} {k : IntKind} {i : Int} (j : Nat) (hj : i = (j : Int)) (ht : arrayB C.P t = some (n, e, sz)) (h : evalE E x = some (.pointer (some ⟨b, p, none⟩))) (hi : evalE E ix = some (.int k i)) (hlt : j < n) : OpV C (.indexAddr t x ix) ty E L (.pointer (some ⟨b, p + j * sz, none⟩)) L :=
  pureV fun d pos aft g a w ha => by
    obtain ⟨h1, i', h2, h3⟩ := array_spec ht
    subst hj
    simp [execOp, ha.eval h, ha.eval hi, Instr.indexAt, asIntOf, run_underlying h1, run_sizeOf h2, h3, hlt, Addr.add_mk, Instr.sureAddr]
theorem run_load1 {t : TypeId} {p : Addr} {w : World} (hs : scalarB C.P t = true) (h : w.cell? p = some v) : (loadVar t p).run C.P w = .ok v w := by
  simp [loadVar, run_isAgg_scalar hs, h]
theorem v_loadW {x : Operand} {t : TypeId} {p : Addr} (hs : scalarB C.P t = true) (hx : evalE E x = some (.pointer (some p))) (hw : ∀ w, Inv C.w0 L w → w.cell? p = some v) : OpV C (.load t x) ty E L v L :=
  fun d pos aft g a w ha hi => ⟨w, .inl (by simp [execOp, ha.eval hx, Instr.loadAt, Instr.sureAddr, run_load1 hs (hw w hi)]), hi, fun _ => by simp [execOp, ha.eval hx, Instr.loadAt, Instr.sureAddr, run_load1 hs (hw w hi)]⟩
theorem v_load {x : Operand} {t b o T : Nat} {cs : List Value} (hs : scalarB C.P t = true) (hx : evalE E x = some (.pointer (some ⟨b, o, none⟩))) (hm : Cel b T cs ∈ L) (hv : cs[o]? = some v) : OpV C (.load t x) ty E L v L :=
  v_loadW hs hx fun w hi => by obtain ⟨F, hF⟩ := hi.mem hm; rw [hF.cel_cell, hv]
theorem v_loadAggW {x : Operand} {t n b o : Nat} {vs : List Value} (hs : aggB C.P t = some n) (hx : evalE E x = some (.pointer (some ⟨b, o, none⟩))) (hn : vs.length = n) (hw : ∀ w, Inv C.w0 L w → ∀ j v, vs[j]? = some v → w.cell? ⟨b, o + j, none⟩ = some v) : OpV C (.load t x) ty E L (.agg vs.toArray) L :=
  fun d pos aft g a w ha hi => by
    have hr : (execOp a.eval ⟨d, .load t x, ty, pos, aft, g⟩).run C.P w = .ok (.value (.agg vs.toArray)) w := by
      obtain ⟨h1, h2⟩ := agg_spec hs w
      have := run_loadCells_list (P := C.P) w ⟨b, o, none⟩ vs (fun j v hj => by rw [Addr.add_mk]; exact hw w hi j v hj)
      rw [hn] at this
      simp [execOp, ha.eval hx, Instr.loadAt, Instr.sureAddr, loadVar, h1, h2, this]
    exact ⟨w, .inl hr, hi, fun _ => hr⟩
theorem v_loadAgg {x : Operand} {t n b o T : Nat} {cs vs : List Value} (hs : aggB C.P t = some n) (hx : evalE E x = some (.pointer (some ⟨b, o, none⟩))) (hm : Cel b T cs ∈ L) (hn : vs.length = n) (hv : (cs.drop o).take n = vs) : OpV C (.load t x) ty E L (.agg vs.toArray) L :=
  v_loadAggW hs hx hn fun w hi j v hj => by
    obtain ⟨F, hF⟩ := hi.mem hm
    rw [hF.cel_cell, ← hj, ← hv]
    have : j < n := by
      have := (List.getElem?_eq_some_iff.1 hj).1
      omega
    simp [List.getElem?_take, this, List.getElem?_drop]
theorem v_store {x y : Operand} {t b o T : Nat} {cs cs' : List Value} {u : Value} (hs : scalarB C.P t = true) (hx : evalE E x = some (.pointer (some ⟨b, o, none⟩))) (hy : evalE E y = some u) (h1 : u.oneCell' = true)
    (hr : Rep L (Cel b T cs) (Cel b T cs') L') (ho : o < cs.length) (hc : cs.set o u = cs') : OpV C (.store t x y) ty E L undef L' := by
  intro d pos aft g a w ha hi
  obtain ⟨F, p1, p2⟩ := hr.perm
  have hi1 := hi.perm p1
  have hcell : w.cell? ⟨b, o, none⟩ = some cs[o] := by rw [hi1.cel_cell]; simp [ho]
  have hfr := hi1.cel_frozen o ho
  have hcs : u.cells = #[u] := by cases u <;> first | rfl | (simp [Value.oneCell'] at h1)
  obtain ⟨i, hinfo, hsz⟩ := scalar_info hs
  refine ⟨w.setCell ⟨b, o, none⟩ u, .inr ⟨?_, rfl⟩, ?_, fun h => by cases h⟩
  · have hst := run_store C.P w ⟨b, o, none⟩ u .plain h1
    simp [hcell, hfr] at hst
    simp [execOp, ha.eval hx, ha.eval hy, Instr.storeAt, Instr.sureAddr, storeVar, hcs, run_sizeOf hinfo, hsz, storeCells, Addr.add_mk, hst]
  · rw [← hc] at p2
    exact (hi1.setCell o u).perm p2
theorem x_alloc {t : TypeId} {zs : List Value} (hz : zeroB C.P t = some zs) : OpX C (.alloc t) ty E L (fun v L' => ∃ b, v = .pointer (some ⟨b, 0, none⟩) ∧ L' = Cel b t zs :: L) := by
  intro d pos aft g a w K Qx ha hi hK
  obtain ⟨i, z, h1, h2, h3, h4⟩ := zero_spec hz
  have hr : (execOp a.eval ⟨d, .alloc t, ty, pos, aft, g⟩).run C.P w = .ok (.value (.pointer (some ⟨w.heap.size, 0, none⟩))) (w.alloc (.cells zs.toArray t)) := by
    simp [execOp, Instr.alloc, zeroValue, typeInfo, h1, h2, newVar, newRow, h3]
  unfold Oper.wp
  rw [hr]
  exact hK _ _ _ ⟨_, rfl, rfl⟩ (hi.alloc t zs)
theorem x_box {t : TypeId} {x : Operand} {u : Value} (hx : evalE E x = some u) : OpX C (.box t x) ty E L (fun v L' => ∃ b, v = .pointer (some ⟨b, 0, none⟩) ∧ L' = Cel b t u.cells.toList :: L) := by
  intro d pos aft g a w K Qx ha hi hK
  have hr : (execOp a.eval ⟨d, .box t x, ty, pos, aft, g⟩).run C.P w = .ok (.value (.pointer (some ⟨w.heap.size, 0, none⟩))) (w.alloc (.cells u.cells.toList.toArray t)) := by
    simp [execOp, ha.eval hx, Instr.box, newVar, newRow]
  unfold Oper.wp
  rw [hr]
  exact hK _ _ _ ⟨_, rfl, rfl⟩ (hi.alloc t _)
theorem o_alloc {t : TypeId} {zs : List Value} (hz : zeroB C.P t = some zs) (hd : Nat.blt d C.n = true) (k : ∀ b, Ops C ops rest Q ((d, .pointer (some ⟨b, 0, none⟩)) :: E) (Cel b t zs :: L)) : Ops C ops (⟨some d, .alloc t, ty, pos, aft, none⟩ :: rest) Q E L :=
  o_any (x_alloc hz) hd fun v L' ⟨b, e1, e2⟩ => by subst e1; subst e2; exact k b
theorem o_box {t : TypeId} {x : Operand} {u : Value} {cs : List Value} (hx : evalE E x = some u) (hc : u.cells.toList = cs) (hd : Nat.blt d C.n = true) (k : ∀ b, Ops C ops rest Q ((d, .pointer (some ⟨b, 0, none⟩)) :: E) (Cel b t cs :: L)) : Ops C ops (⟨some d, .box t x, ty, pos, aft, none⟩ :: rest) Q E L :=
  o_any (x_box hx) hd fun v L' ⟨b, e1, e2⟩ => by subst e1; subst e2; subst hc; exact k b
theorem run_storeCells {w0 : World} {b T : Nat} : ∀ (us : List Value) (o i : Nat) (cs : List Value) (F : List HProp) (w : World), (∀ u ∈ us, u.oneCell' = true) → o + i + us.length ≤ cs.length → Inv w0 (Cel b T cs :: F) w →
    ∃ w', (storeCells ⟨b, o, none⟩ us i).run C.P w = .ok () w' ∧ Inv w0 (Cel b T (cs.take (o + i) ++ us ++ cs.drop (o + i + us.length)) :: F) w'
  | [], o, i, cs, F, w, _, h, hi => ⟨w, rfl, by simpa using hi⟩
  | u :: us, o, i, cs, F, w, h1, h, hi => by
    simp only [List.length_cons] at h
    have hlt : o + i < cs.length := by omega
    have hcell : w.cell? ⟨b, o + i, none⟩ = some cs[o + i] := by rw [hi.cel_cell]; simp [hlt]
    have hfr := hi.cel_frozen (o + i) hlt
    have hst := run_store C.P w ⟨b, o + i, none⟩ u .plain (h1 u (by simp))
    simp [hcell, hfr] at hst
    obtain ⟨w', hr, hi'⟩ := run_storeCells us o (i + 1) (cs.set (o + i) u) F _ (fun x hx => h1 x (by simp [hx])) (by simp; omega) (hi.setCell (o + i) u)
    refine ⟨w', by simp [storeCells, Addr.add_mk, hst, hr], ?_⟩
    have e : (cs.set (o + i) u).take (o + (i + 1)) ++ us ++ (cs.set (o + i) u).drop (o + (i + 1) + us.length) = cs.take (o + i) ++ (u :: us) ++ cs.drop (o + i + (u :: us).length) := by
      have e1 : (cs.set (o + i) u).take (o + (i + 1)) = cs.take (o + i) ++ [u] := by
        apply List.ext_getElem?
        intro j
        simp only [List.getElem?_take, List.getElem?_set, List.getElem?_append, List.length_take]
        by_cases hj : j < o + i
        · have : j < o + (i + 1) := by omega
          have h3 : ¬ (o + i = j) := by omega
          have h4 : j < min (o + i) cs.length := by omega
          simp [hj, this, h3, h4]
        · by_cases hj2 : j = o + i
          · subst hj2
            have : o + i < o + (i + 1) := by omega
            have h4 : ¬ (o + i < min (o + i) cs.length) := by omega
            have h5 : o + i - min (o + i) cs.length = 0 := by omega
            simp [this, hlt, h4, h5]
          · have : ¬ j < o + (i + 1) := by omega
            have h4 : ¬ (j < min (o + i) cs.length) := by omega
            have h5 : ¬ (j - min (o + i) cs.length = 0) := by omega
            simp [this, h4, List.getElem?_cons, h5]
      have e2 : (cs.set (o + i) u).drop (o + (i + 1) + us.length) = cs.drop (o + i + (u :: us).length) := by
        rw [List.drop_set_of_lt (by omega)]
        congr 1
        simp; omega
      rw [e1, e2]
      simp
    rw [← e]
    exact hi'
theorem v_storeAgg {x y : Operand} {t b o T n : Nat} {cs cs' us : List Value} (hs : aggB C.P t = some n) (hx : evalE E x = some (.pointer (some ⟨b, o, none⟩))) (hy : evalE E y = some (.agg us.toArray)) (h1 : us.all Value.oneCell' = true) (hn : us.length = n)
    (hr : Rep L (Cel b T cs) (Cel b T cs') L') (ho : o + n ≤ cs.length) (hc : cs.take o ++ us ++ cs.drop (o + n) = cs') : OpV C (.store t x y) ty E L undef L' := by
  intro d pos aft g a w ha hi
  obtain ⟨F, p1, p2⟩ := hr.perm
  have hi1 := hi.perm p1
  obtain ⟨h2, h3⟩ := agg_spec hs w
  obtain ⟨w', hst, hi'⟩ := run_storeCells (C := C) us o 0 cs F w (fun u hu => by simpa using List.all_eq_true.1 h1 u hu) (by omega) hi1
  refine ⟨w', .inr ⟨?_, rfl⟩, ?_, fun h => by cases h⟩
  · simp [execOp, ha.eval hx, ha.eval hy, Instr.storeAt, Instr.sureAddr, storeVar, Value.cells, h3, hn, hst]
  · simp only [Nat.add_zero, hn, hc] at hi'
    exact hi'.perm p2
end
end Go.Sl

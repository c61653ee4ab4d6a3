/- Walks of functions that the law reaches, and what they lean on; no conditions. -/
import Derived.Calls
import Derived.Below
import Derived.Tactics
import Derived.Orders
set_option linter.unusedVariables false
set_option linter.unusedSimpArgs false
set_option maxRecDepth 100000
namespace Go.Sl
open Go.RowKit (Below)
abbrev Hp := Nat → Option Obj
def Hp.le (a b : Hp) : Prop := ∀ n o, a n = some o → b n = some o
def Hp.disj (a b : Hp) : Prop := ∀ n, a n = none ∨ b n = none
def Hp.join (a b : Hp) : Hp := fun n => match a n with | some o => some o | none => b n
theorem Hp.le_refl (a : Hp) : a.le a := fun _ _ h => h
theorem Hp.le_trans {a b c : Hp} (h : a.le b) (k : b.le c) : a.le c := fun n o e => k n o (h n o e)
theorem Hp.disj_symm {a b : Hp} (h : a.disj b) : b.disj a := fun n => (h n).symm
theorem Hp.disj_le {a a' b b' : Hp} (h : a.disj b) (ha : a'.le a) (hb : b'.le b) : a'.disj b' := fun n => by
 rcases h n with h | h
 ·left
  cases e : a' n with
  | none => rfl
  | some o => rw [ha n o e] at h; cases h
 ·right
  cases e : b' n with
  | none => rfl
  | some o => rw [hb n o e] at h; cases h
theorem Hp.le_join_left (a b : Hp) : a.le (a.join b) := fun n o h => by simp [Hp.join, h]
theorem Hp.le_join_right {a b : Hp} (hd : a.disj b) : b.le (a.join b) := fun n o h => by
 rcases hd n with e | e
 ·simp [Hp.join, e, h]
 ·rw [e] at h; cases h
theorem Hp.join_le {a b c : Hp} (h : a.le c) (k : b.le c) : (a.join b).le c := fun n o e => by
 unfold Hp.join at e
 split at e
 ·rename_i x hx; cases e; exact h n _ hx
 ·exact k n o e
theorem Hp.join_disj {a b c : Hp} (h : a.disj c) (k : b.disj c) : (a.join b).disj c := fun n => by
 rcases h n with e | e
 ·rcases k n with e' | e'
  ·left; simp [Hp.join, e, e']
  ·exact .inr e'
 ·exact .inr e
abbrev HProp := World → Hp → Prop
def sats (w0 : World) : List HProp → Hp → Prop
 | [], _ => True
 | p :: l, h => ∃ h1 h2, Hp.disj h1 h2 ∧ Hp.le h1 h ∧ Hp.le h2 h ∧ p w0 h1 ∧ sats w0 l h2
theorem sats_mono {w0 : World} : ∀ {L : List HProp} {h h' : Hp}, Hp.le h h' → sats w0 L h → sats w0 L h'
 | [], _, _, _, _ => trivial
 | _ :: _, _, _, hl, ⟨h1, h2, d, l1, l2, p, r⟩ => ⟨h1, h2, d, Hp.le_trans l1 hl, Hp.le_trans l2 hl, p, r⟩
theorem sats_append {w0 : World} : ∀ {L M : List HProp} {h : Hp}, sats w0 (L ++ M) h ↔ ∃ h1 h2, Hp.disj h1 h2 ∧ Hp.le h1 h ∧ Hp.le h2 h ∧ sats w0 L h1 ∧ sats w0 M h2
 | [], M, h => ⟨fun k => ⟨fun _ => none, h, fun _ => .inl rfl, fun _ _ e => by simp at e, Hp.le_refl _, trivial, k⟩, fun ⟨_, _, _, _, l, _, k⟩ => sats_mono l k⟩
 | p :: L, M, h => by
  constructor
  ·rintro ⟨h1, h2, d, l1, l2, hp, k⟩
   obtain ⟨g1, g2, d', m1, m2, k1, k2⟩ := sats_append.1 k
   refine ⟨h1.join g1, g2, ?_, ?_, Hp.le_trans m2 l2, ?_, k2⟩
   ·exact Hp.join_disj (Hp.disj_le d (Hp.le_refl _) m2) d'
   ·exact Hp.join_le l1 (Hp.le_trans m1 l2)
   ·exact ⟨h1, g1, Hp.disj_le d (Hp.le_refl _) m1, Hp.le_join_left _ _, Hp.le_join_right (Hp.disj_le d (Hp.le_refl _) m1), hp, k1⟩
  ·rintro ⟨h1, h2, d, l1, l2, ⟨g1, g2, d', m1, m2, hp, k1⟩, k2⟩
   refine ⟨g1, g2.join h2, ?_, Hp.le_trans m1 l1, ?_, hp, ?_⟩
   ·exact Hp.disj_symm (Hp.join_disj (Hp.disj_symm d') (Hp.disj_symm (Hp.disj_le d m1 (Hp.le_refl _))))
   ·exact Hp.join_le (Hp.le_trans m2 l1) l2
   ·exact sats_append.2 ⟨g2, h2, Hp.disj_le d m2 (Hp.le_refl _), Hp.le_join_left _ _, Hp.le_join_right (Hp.disj_le d m2 (Hp.le_refl _)), k1, k2⟩
theorem sats_perm {w0 : World} {L M : List HProp} (hp : L.Perm M) : ∀ {h : Hp}, sats w0 L h → sats w0 M h := by
 induction hp with
 | nil => exact fun k => k
 | cons p _ ih => exact fun ⟨h1, h2, d, l1, l2, hp, k⟩ => ⟨h1, h2, d, l1, l2, hp, ih k⟩
 | swap p q l =>
  rintro h ⟨h1, h2, d, l1, l2, hp, g1, g2, d', m1, m2, hq, k⟩
  refine ⟨g1, h1.join g2, ?_, Hp.le_trans m1 l2, ?_, hq, h1, g2, ?_, Hp.le_join_left _ _, ?_, hp, k⟩
  ·exact Hp.disj_symm (Hp.join_disj (Hp.disj_le d (Hp.le_refl _) m1) (Hp.disj_symm d'))
  ·exact Hp.join_le l1 (Hp.le_trans m2 l2)
  ·exact Hp.disj_le d (Hp.le_refl _) m2
  ·exact Hp.le_join_right (Hp.disj_le d (Hp.le_refl _) m2)
 | trans _ _ ih1 ih2 => exact fun k => ih2 (ih1 k)
structure Inv (w0 : World) (L : List HProp) (w : World) : Prop where
 below : Below w0.heap.size w0 w
 heap : ∃ h : Hp, (∀ b o, h b = some o → w0.heap.size ≤ b ∧ w.heap[b]? = some o) ∧ sats w0 L h
theorem Inv.perm {w0 w : World} {L M : List HProp} (hi : Inv w0 L w) (hp : L.Perm M) : Inv w0 M w :=
 ⟨hi.below, let ⟨h, a, b⟩ := hi.heap; ⟨h, a, sats_perm hp b⟩⟩
theorem Inv.tail {w0 w : World} {A : HProp} {L : List HProp} (hi : Inv w0 (A :: L) w) : Inv w0 L w :=
 ⟨hi.below, let ⟨h, a, _, _, _, _, l2, _, k⟩ := hi.heap; ⟨h, a, sats_mono l2 k⟩⟩
theorem Inv.right {w0 w : World} {L M : List HProp} (hi : Inv w0 (L ++ M) w) : Inv w0 M w :=
 ⟨hi.below, let ⟨h, a, k⟩ := hi.heap; let ⟨_, _, _, _, l2, _, k2⟩ := sats_append.1 k; ⟨h, a, sats_mono l2 k2⟩⟩
theorem Inv.start (w : World) : Inv w [] w := ⟨Below.refl _ _, ⟨fun _ => none, ⟨fun _ _ e => (by simp at e), trivial⟩⟩⟩
theorem Inv.opn {w0 w : World} {A : HProp} {L : List HProp} {ι : Sort _} {K : ι → Prop} {B : ι → List HProp} (hA : ∀ h, A w0 h → ∃ i, K i ∧ sats w0 (B i) h) (hi : Inv w0 (A :: L) w) : ∃ i, K i ∧ Inv w0 (B i ++ L) w := by
 obtain ⟨hb, h, a, h1, h2, d, l1, l2, p, k⟩ := hi
 obtain ⟨i, c, s⟩ := hA h1 p
 exact ⟨i, c, hb, h, a, sats_append.2 ⟨h1, h2, d, l1, l2, s, k⟩⟩
theorem Inv.cls {w0 w : World} {A : HProp} {B L : List HProp} (hA : ∀ h, sats w0 B h → A w0 h) (hi : Inv w0 (B ++ L) w) : Inv w0 (A :: L) w := by
 obtain ⟨hb, h, a, k⟩ := hi
 obtain ⟨h1, h2, d, l1, l2, k1, k2⟩ := sats_append.1 k
 exact ⟨hb, h, a, h1, h2, d, l1, l2, hA h1 k1, k2⟩
theorem Inv.imp {w0 w : World} {A B : HProp} {L : List HProp} (hA : ∀ h, A w0 h → B w0 h) (hi : Inv w0 (A :: L) w) : Inv w0 (B :: L) w := by
 obtain ⟨hb, h, a, h1, h2, d, l1, l2, p, k⟩ := hi
 exact ⟨hb, h, a, h1, h2, d, l1, l2, hA _ p, k⟩
def Cel (b : Nat) (T : TypeId) (cs : List Value) : HProp := fun _ h => h b = some (.cells cs.toArray T (0, 0))
def Pr (p : Prop) : HProp := fun _ _ => p
def Star (l : List HProp) : HProp := fun w0 h => sats w0 l h
theorem Inv.unstar {w0 w : World} {l L : List HProp} (hi : Inv w0 (Star l :: L) w) : Inv w0 (l ++ L) w :=
 let ⟨_, _, k⟩ := Inv.opn (ι := Unit) (K := fun _ => True) (B := fun _ => l) (fun h s => ⟨(), trivial, s⟩) hi; k
theorem Inv.star {w0 w : World} {l L : List HProp} (hi : Inv w0 (l ++ L) w) : Inv w0 (Star l :: L) w := Inv.cls (fun _ s => s) hi
theorem Inv.cel_ge {w0 w : World} {b : Nat} {T : TypeId} {cs : List Value} {L : List HProp} (hi : Inv w0 (Cel b T cs :: L) w) : w0.heap.size ≤ b :=
 let ⟨_, _, a, _, _, _, l1, _, p, _⟩ := hi; (a _ _ (l1 _ _ p)).1
theorem Inv.cel_block {w0 w : World} {b : Nat} {T : TypeId} {cs : List Value} {L : List HProp} (hi : Inv w0 (Cel b T cs :: L) w) : w.heap[b]? = some (.cells cs.toArray T (0, 0)) :=
 let ⟨_, _, a, _, _, _, l1, _, p, _⟩ := hi; (a _ _ (l1 _ _ p)).2
theorem Inv.cel_cell {w0 w : World} {b : Nat} {T : TypeId} {cs : List Value} {L : List HProp} (hi : Inv w0 (Cel b T cs :: L) w) (o : Nat) : w.cell? ⟨b, o, none⟩ = cs[o]? := by
 simp [World.cell?, hi.cel_block]
theorem Inv.cel_frozen {w0 w : World} {b : Nat} {T : TypeId} {cs : List Value} {L : List HProp} (hi : Inv w0 (Cel b T cs :: L) w) (o : Nat) : w.frozen? ⟨b, o, none⟩ = false := by
 simp [World.frozen?, hi.cel_block]
theorem Inv.alloc {w0 w : World} {L : List HProp} (hi : Inv w0 L w) (T : TypeId) (cs : List Value) : Inv w0 (Cel w.heap.size T cs :: L) (w.alloc (.cells cs.toArray T)) := by
 obtain ⟨hb, h, a, k⟩ := hi
 have hd : Hp.disj (fun b => if b = w.heap.size then some (Obj.cells cs.toArray T (0, 0)) else none) h := fun n => by
  by_cases e : n = w.heap.size
  ·right
   cases hn : h n with
   | none => rfl
   | some o =>
    have := (a n o hn).2
    rw [e] at this
    simp at this
  ·left; simp [e]
 refine ⟨hb.alloc hb.size _, Hp.join _ h, ?_, _, h, hd, Hp.le_join_left _ _, Hp.le_join_right hd, by simp [Cel], k⟩
 intro b o e
 unfold Hp.join at e
 by_cases hbs : b = w.heap.size
 ·subst hbs
  simp at e
  subst e
  exact ⟨hb.size, by show (w.heap.push _)[w.heap.size]? = _; simp⟩
 ·simp [hbs] at e
  obtain ⟨g1, g2⟩ := a b o e
  refine ⟨g1, ?_⟩
  show (w.heap.push _)[b]? = _
  rw [Array.getElem?_push, if_neg hbs]
  exact g2
theorem Inv.write {w0 w w' : World} {b : Nat} {T : TypeId} {cs cs' : List Value} {L : List HProp} (hi : Inv w0 (Cel b T cs :: L) w)
  (hos : w'.os = w.os) (ht : w'.tape = w.tape) (ho : w'.output = w.output) (hs : w.heap.size ≤ w'.heap.size)
  (hblk : w'.heap[b]? = some (.cells cs'.toArray T (0, 0))) (hoth : ∀ k, k ≠ b → k < w.heap.size → w'.heap[k]? = w.heap[k]?) : Inv w0 (Cel b T cs' :: L) w' := by
 have hge := hi.cel_ge
 obtain ⟨hb, h, a, h1, h2, d, l1, l2, p, k⟩ := hi
 have hlt : ∀ j o, w.heap[j]? = some o → j < w.heap.size := fun j o e => by
  rcases Nat.lt_or_ge j w.heap.size with h | h
  ·exact h
  ·simp [Array.getElem?_eq_none h] at e
 have hd : Hp.disj (fun n => if n = b then some (Obj.cells cs'.toArray T (0, 0)) else none) h2 := fun n => by
  by_cases e : n = b
  ·right
   rcases d n with x | x
   ·rw [e, p] at x; cases x
   ·exact x
  ·left; simp [e]
 refine ⟨hb.trans ⟨hos, ht, ho, hs, fun j hj => ?_⟩, Hp.join _ h2, ?_, _, h2, hd, Hp.le_join_left _ _, Hp.le_join_right hd, by simp [Cel], k⟩
 ·have := hb.size
  exact hoth j (by omega) (by omega)
 ·intro j o e
  unfold Hp.join at e
  by_cases hj : j = b
  ·subst hj
   simp at e
   subst e
   exact ⟨hge, hblk⟩
  ·simp [hj] at e
   obtain ⟨g1, g2⟩ := a j o (l2 j o e)
   exact ⟨g1, by rw [hoth j hj (hlt j o g2)]; exact g2⟩
theorem Inv.setCell {w0 w : World} {b : Nat} {T : TypeId} {cs : List Value} {L : List HProp} (hi : Inv w0 (Cel b T cs :: L) w) (o : Nat) (v : Value) : Inv w0 (Cel b T (cs.set o v) :: L) (w.setCell ⟨b, o, none⟩ v) := by
 refine hi.write rfl rfl rfl (by simp) ?_ ?_
 ·simp [World.setCell, Array.getElem?_modify, hi.cel_block]
 ·intro k hk _
  exact Below.heap_setCell _ _ _ _ hk
theorem Inv.drew {w0 w : World} {L : List HProp} (hi : Inv w0 L w) : Inv w0 L w.drew :=
 ⟨hi.below.drew, hi.heap⟩
abbrev Env := List (Nat × Value)
def Env.get : Env → Nat → Option Value
 | [], _ => none
 | (k, v) :: E, d => cond (Nat.beq k d) (some v) (Env.get E d)
structure Ctx where
 P : Program
 w0 : World
 n : Nat
 D : List Deferred
 X : List PanicEntry → List HProp → Prop
structure Agr (C : Ctx) (E : Env) (a : Act) : Prop where
 defers : a.defers = C.D
 size : a.tmps.size = C.n
 get : ∀ d v, E.get d = some v → a.tmps[d]? = some v
def evalE (E : Env) : Operand → Option Value
 | .tmp t => E.get t
 | .const v => some v
 | .global g => some (.pointer (some ⟨g, 0, none⟩))
 | .func f => some (.func (.func f) #[] #[])
theorem Agr.eval {C : Ctx} {E : Env} {a : Act} (h : Agr C E a) {x : Operand} {v : Value} (e : evalE E x = some v) : a.eval x = v := by
 cases x with
 | tmp t => simp only [evalE] at e; simp [Act.eval, h.get t v e]
 | const u => simpa [evalE, Act.eval] using e
 | global g => simpa [evalE, Act.eval] using e
 | func f => simpa [evalE, Act.eval] using e
theorem Env.get_cons (k : Nat) (v : Value) (E : Env) (d : Nat) : Env.get ((k, v) :: E) d = if k = d then some v else Env.get E d := by
 simp only [Env.get]
 by_cases h : k = d
 ·subst h; simp
 ·have : Nat.beq k d = false := by
   cases hb : Nat.beq k d with
   | false => rfl
   | true => exact absurd (Nat.eq_of_beq_eq_true hb) h
  simp [this, h]
theorem Agr.put {C : Ctx} {E : Env} {a : Act} (h : Agr C E a) {d : Nat} (hd : d < C.n) (v : Value) : Agr C ((d, v) :: E) (a.put (some d) v) := by
 refine ⟨h.defers, by simp [Act.put, h.size], fun k u e => ?_⟩
 rw [Env.get_cons] at e
 simp only [Act.put, Array.getElem?_setIfInBounds]
 by_cases hk : d = k
 ·subst hk
  simp at e
  simp [h.size, hd, e]
 ·simp only [hk, if_false] at e ⊢
  exact h.get k u e
def Le (E' E : Env) : Prop := ∀ d v, E'.get d = some v → E.get d = some v
theorem Agr.le {C : Ctx} {E E' : Env} {a : Act} (h : Agr C E a) (l : Le E' E) : Agr C E' a := ⟨h.defers, h.size, fun d v e => h.get d v (l d v e)⟩
theorem Le.refl (E : Env) : Le E E := fun _ _ e => e
theorem Le.nil (E : Env) : Le [] E := fun _ _ e => by cases e
theorem Le.cons {E E' : Env} {d : Nat} {v : Value} (h : E.get d = some v) (l : Le E' E) : Le ((d, v) :: E') E := fun k u e => by
 rw [Env.get_cons] at e
 by_cases hk : d = k
 ·subst hk; simp at e; rw [← e]; exact h
 ·simp only [hk, if_false] at e; exact l k u e
abbrev QT := Exit → Env → List HProp → Prop
def Qh (C : Ctx) (Q : QT) : Exit → Act → World → Prop := fun e a w => ∃ E L, Agr C E a ∧ Inv C.w0 L w ∧ Q e E L
def Wp (C : Ctx) (c : Code) (Q : QT) (E : Env) (L : List HProp) : Prop := ∀ a w, Agr C E a → Inv C.w0 L w → c.wp C.P (Qh C Q) a w
def Ops (C : Ctx) (ops : Array Oper) (l : List Oper) (Q : QT) (E : Env) (L : List HProp) : Prop := ∀ a w, Agr C E a → Inv C.w0 L w → wpList C.P ops (Qh C Q) l a w
def thn (k : Env → List HProp → Prop) (Q : QT) : QT := fun e E L => match e with | .normal => k E L | e => Q e E L
def blk (id : Nat) (Q : QT) : QT := fun e E L => match e with | .exit i => cond (Nat.beq i id) (Q .normal E L) (Q (.exit i) E L) | e => Q e E L
section
variable {C : Ctx} {Q : QT} {E : Env} {L : List HProp}
theorem Wp.mono {c : Code} {Q' : QT} (h : Wp C c Q E L) (hq : ∀ e E L, Q e E L → Q' e E L) : Wp C c Q' E L :=
 fun a w ha hi => Code.wp_mono (fun e a w ⟨E, L, x, y, z⟩ => ⟨E, L, x, y, hq e E L z⟩) (h a w ha hi)
theorem Wp.weaken {c : Code} {E' : Env} {L' : List HProp} (h : Wp C c Q E' L') (l : Le E' E) (hp : L.Perm L') : Wp C c Q E L :=
 fun a w ha hi => h a w (ha.le l) (hi.perm hp)
theorem w_keep {c : Code} (E' : Env) (l : Le E' E) (h : Wp C c Q E' L) : Wp C c Q E L := h.weaken l (List.Perm.refl _)
theorem w_perm {c : Code} {L' : List HProp} (hp : L.Perm L') (h : Wp C c Q E L') : Wp C c Q E L := h.weaken (Le.refl _) hp
theorem w_opn {c : Code} {A : HProp} {ι : Sort _} {K : ι → Prop} {B : ι → List HProp} (hA : ∀ h, A C.w0 h → ∃ i, K i ∧ sats C.w0 (B i) h)
  (k : ∀ i, K i → Wp C c Q E (B i ++ L)) : Wp C c Q E (A :: L) := fun a w ha hi => let ⟨i, c, s⟩ := hi.opn hA; k i c a w ha s
theorem w_seq {x y : Code} (h : Wp C x (thn (fun E L => Wp C y Q E L) Q) E L) : Wp C (.seq x y) Q E L := fun a w ha hi =>
 Go.wp_seq (Code.wp_mono (fun e a w ⟨E, L, ha, hi, q⟩ => by
  cases e with
  | normal => exact q a w ha hi
  | exit _ => exact ⟨E, L, ha, hi, q⟩
  | goto _ => exact ⟨E, L, ha, hi, q⟩
  | ret => exact ⟨E, L, ha, hi, q⟩
  | panic _ => exact ⟨E, L, ha, hi, q⟩
  | outgrown => exact ⟨E, L, ha, hi, q⟩) (h a w ha hi))
theorem thn_n {k : Env → List HProp → Prop} (h : k E L) : thn k Q .normal E L := h
theorem w_skip (h : Q .normal E L) : Wp C .skip Q E L := fun a w ha hi => Go.wp_skip ⟨E, L, ha, hi, h⟩
theorem w_ret (h : Q .ret E L) : Wp C .ret Q E L := fun a w ha hi => Go.wp_ret ⟨E, L, ha, hi, h⟩
theorem w_exit {id : Nat} (h : Q (.exit id) E L) : Wp C (.exit id) Q E L := fun a w ha hi => Go.wp_exit ⟨E, L, ha, hi, h⟩
theorem w_block {id : Nat} {c : Code} (h : Wp C c (blk id Q) E L) : Wp C (.block id c) Q E L := fun a w ha hi =>
 Go.wp_block (Code.wp_mono (fun e a w ⟨E, L, ha, hi, q⟩ => by
  cases e with
  | exit i =>
   simp only [blk] at q
   simp only [Exit.inBlock]
   by_cases hid : i = id
   ·subst hid
    simp at q ⊢
    exact ⟨E, L, ha, hi, q⟩
   ·have : Nat.beq i id = false := by
     cases hb : Nat.beq i id with
     | false => rfl
     | true => exact absurd (Nat.eq_of_beq_eq_true hb) hid
    simp [this] at q
    simp only [hid, if_false]
    exact ⟨E, L, ha, hi, q⟩
  | normal => exact ⟨E, L, ha, hi, q⟩
  | goto _ => exact ⟨E, L, ha, hi, q⟩
  | ret => exact ⟨E, L, ha, hi, q⟩
  | panic _ => exact ⟨E, L, ha, hi, q⟩
  | outgrown => exact ⟨E, L, ha, hi, q⟩) (h a w ha hi))
theorem w_cond {c : Operand} {x y : Code} {b : Bool} (hc : evalE E c = some (.bool b)) (ht : b = true → Wp C x Q E L) (hf : b = false → Wp C y Q E L) : Wp C (.cond c x y) Q E L :=
 fun a w ha hi => Go.wp_cond_split (ha.eval hc) (fun e => ht e a w ha hi) (fun e => hf e a w ha hi)
theorem w_condT {c : Operand} {x y : Code} (hc : evalE E c = some (.bool true)) (h : Wp C x Q E L) : Wp C (.cond c x y) Q E L :=
 fun a w ha hi => Go.wp_cond_true (ha.eval hc) (h a w ha hi)
theorem w_condF {c : Operand} {x y : Code} (hc : evalE E c = some (.bool false)) (h : Wp C y Q E L) : Wp C (.cond c x y) Q E L :=
 fun a w ha hi => Go.wp_cond_false (ha.eval hc) (h a w ha hi)
theorem w_condD {c : Operand} {x y : Code} {p : Prop} [Decidable p] (hc : evalE E c = some (.bool (decide p))) (ht : p → Wp C x Q E L) (hf : ¬ p → Wp C y Q E L) : Wp C (.cond c x y) Q E L :=
 w_cond hc (fun e => ht (of_decide_eq_true e)) (fun e => hf (of_decide_eq_false e))
theorem w_loop {c : Code} (R : Nat → Env → List HProp → Prop) (m : Nat) (h0 : R m E L)
  (h : ∀ m E L, R m E L → Wp C c (thn (fun E' L' => ∃ m', m' < m ∧ R m' E' L') Q) E L) : Wp C (.loop c) Q E L := by
 intro a w ha hi b k cs
 have key : ∀ n a w, (∃ E L, Agr C E a ∧ Inv C.w0 L w ∧ R n E L) →
   ∃ e a' w', Qh C Q e a' w' ∧ Arrives C.P (lone (b.at a (.code c :: .inLoop c :: k)) cs w) b k cs e a' w' := by
  intro n
  induction n using Nat.strongRecOn with
  | _ n ih =>
   rintro a w ⟨E, L, ha, hi, hR⟩
   obtain ⟨e, a₁, w₁, hq, harr⟩ := h n E L hR a w ha hi b (.inLoop c :: k) cs
   cases e with
   | normal =>
    obtain ⟨E₁, L₁, ha₁, hi₁, m', hlt, hR₁⟩ := hq
    obtain ⟨e₂, a₂, w₂, hq₂, harr₂⟩ := ih m' hlt a₁ w₁ ⟨E₁, L₁, ha₁, hi₁, hR₁⟩
    exact ⟨e₂, a₂, w₂, hq₂, .of_steps (Steps.trans harr (.one step_inLoop)) harr₂⟩
   | exit id => exact ⟨_, a₁, w₁, hq, .pass (x := .inLoop c) rfl (fun _ _ => .inl (by simp)) harr⟩
   | goto l => exact ⟨_, a₁, w₁, hq, .pass (x := .inLoop c) rfl (fun _ _ => .inl (by simp)) harr⟩
   | ret => exact ⟨_, a₁, w₁, hq, .pass (x := .inLoop c) rfl (fun _ _ => .inl (by simp)) harr⟩
   | panic ch => exact ⟨_, a₁, w₁, hq, .pass (x := .inLoop c) rfl (fun _ _ => .inl (by simp)) harr⟩
   | outgrown => exact ⟨_, a₁, w₁, hq, .pass (x := .inLoop c) rfl (fun _ _ => .inl (by simp)) harr⟩
 obtain ⟨e, a', w', hq, harr⟩ := key m a w ⟨E, L, ha, hi, h0⟩
 exact ⟨e, a', w', hq, .of_steps (.one step_loop) harr⟩
end
end Go.Sl

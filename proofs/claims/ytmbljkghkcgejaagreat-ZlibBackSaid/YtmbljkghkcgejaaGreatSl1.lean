/- Walks of functions that the law reaches, and what they lean on; no conditions. -/
import Derived.Calls
import Derived.Below
import Derived.Tactics
import Derived.Orders
set_option linter.unusedVariables false
set_option linter.unusedSimpArgs false
set_option maxRecDepth 100000
namespace Go.Sl
open Go.RowKit (Below)
abbrev Hp := Nat → Option Obj
def Hp.le (a b : Hp) : Prop := ∀ n o, a n = some o → b n = some o
def Hp.lM (a b : Hp) : Prop := ∀ n, a n = none ∨ b n = none
def Hp.join (a b : Hp) : Hp := fun n => match a n with | some o => some o | none => b n
theorem Hp.le_refl (a : Hp) : a.le a := fun _ _ h => h
theorem Hp.le_trans {a b c : Hp} (h : a.le b) (k : b.le c) : a.le c := fun n o e => k n o (h n o e)
theorem Hp.me {a b : Hp} (h : a.lM b) : b.lM a := fun n => (h n).symm
theorem Hp.km {a a' b b' : Hp} (h : a.lM b) (ha : a'.le a) (hb : b'.le b) : a'.lM b' := fun n => by
 rcases h n with h | h
 ·left
  cases e : a' n with
  | none => rfl
  | some o => rw [ha n o e] at h; cases h
 ·right
  cases e : b' n with
  | none => rfl
  | some o => rw [hb n o e] at h; cases h
theorem Hp.iU (a b : Hp) : a.le (a.join b) := fun n o h => by simp [Hp.join, h]
theorem Hp.iq {a b : Hp} (hd : a.lM b) : b.le (a.join b) := fun n o h => by
 rcases hd n with e | e
 ·simp [Hp.join, e, h]
 ·rw [e] at h; cases h
theorem Hp.join_le {a b c : Hp} (h : a.le c) (k : b.le c) : (a.join b).le c := fun n o e => by
 unfold Hp.join at e
 split at e
 ·rename_i x hx; cases e; exact h n _ hx
 ·exact k n o e
theorem Hp.p8 {a b c : Hp} (h : a.lM c) (k : b.lM c) : (a.join b).lM c := fun n => by
 rcases h n with e | e
 ·rcases k n with e' | e'
  ·left; simp [Hp.join, e, e']
  ·exact .inr e'
 ·exact .inr e
abbrev ae := World → Hp → Prop
def cA (w0 : World) : List ae → Hp → Prop
 | [], _ => True
 | p :: l, h => ∃ h1 h2, Hp.lM h1 h2 ∧ Hp.le h1 h ∧ Hp.le h2 h ∧ p w0 h1 ∧ cA w0 l h2
theorem nD {w0 : World} : ∀ {L : List ae} {h h' : Hp}, Hp.le h h' → cA w0 L h → cA w0 L h'
 | [], _, _, _, _ => trivial
 | _ :: _, _, _, hl, ⟨h1, h2, d, l1, l2, p, r⟩ => ⟨h1, h2, d, Hp.le_trans l1 hl, Hp.le_trans l2 hl, p, r⟩
theorem kD {w0 : World} : ∀ {L M : List ae} {h : Hp}, cA w0 (L ++ M) h ↔ ∃ h1 h2, Hp.lM h1 h2 ∧ Hp.le h1 h ∧ Hp.le h2 h ∧ cA w0 L h1 ∧ cA w0 M h2
 | [], M, h => ⟨fun k => ⟨fun _ => none, h, fun _ => .inl rfl, fun _ _ e => by simp at e, Hp.le_refl _, trivial, k⟩, fun ⟨_, _, _, _, l, _, k⟩ => nD l k⟩
 | p :: L, M, h => by
  constructor
  ·rintro ⟨h1, h2, d, l1, l2, hp, k⟩
   obtain ⟨g1, g2, d', m1, m2, k1, k2⟩ := kD.1 k
   refine ⟨h1.join g1, g2, ?_, ?_, Hp.le_trans m2 l2, ?_, k2⟩
   ·exact Hp.p8 (Hp.km d (Hp.le_refl _) m2) d'
   ·exact Hp.join_le l1 (Hp.le_trans m1 l2)
   ·exact ⟨h1, g1, Hp.km d (Hp.le_refl _) m1, Hp.iU _ _, Hp.iq (Hp.km d (Hp.le_refl _) m1), hp, k1⟩
  ·rintro ⟨h1, h2, d, l1, l2, ⟨g1, g2, d', m1, m2, hp, k1⟩, k2⟩
   refine ⟨g1, g2.join h2, ?_, Hp.le_trans m1 l1, ?_, hp, ?_⟩
   ·exact Hp.me (Hp.p8 (Hp.me d') (Hp.me (Hp.km d m1 (Hp.le_refl _))))
   ·exact Hp.join_le (Hp.le_trans m2 l1) l2
   ·exact kD.2 ⟨g2, h2, Hp.km d m2 (Hp.le_refl _), Hp.iU _ _, Hp.iq (Hp.km d m2 (Hp.le_refl _)), k1, k2⟩
theorem BV {w0 : World} {L M : List ae} (hp : L.Perm M) : ∀ {h : Hp}, cA w0 L h → cA w0 M h := by
 induction hp with
 | nil => exact fun k => k
 | cons p _ ih => exact fun ⟨h1, h2, d, l1, l2, hp, k⟩ => ⟨h1, h2, d, l1, l2, hp, ih k⟩
 | swap p q l =>
  rintro h ⟨h1, h2, d, l1, l2, hp, g1, g2, d', m1, m2, hq, k⟩
  refine ⟨g1, h1.join g2, ?_, Hp.le_trans m1 l2, ?_, hq, h1, g2, ?_, Hp.iU _ _, ?_, hp, k⟩
  ·exact Hp.me (Hp.p8 (Hp.km d (Hp.le_refl _) m1) (Hp.me d'))
  ·exact Hp.join_le l1 (Hp.le_trans m2 l2)
  ·exact Hp.km d (Hp.le_refl _) m2
  ·exact Hp.iq (Hp.km d (Hp.le_refl _) m2)
 | trans _ _ ih1 ih2 => exact fun k => ih2 (ih1 k)
structure Inv (w0 : World) (L : List ae) (w : World) : Prop where
 below : Below w0.heap.size w0 w
 heap : ∃ h : Hp, (∀ b o, h b = some o → w0.heap.size ≤ b ∧ w.heap[b]? = some o) ∧ cA w0 L h
theorem Inv.perm {w0 w : World} {L M : List ae} (hi : Inv w0 L w) (hp : L.Perm M) : Inv w0 M w :=
 ⟨hi.below, let ⟨h, a, b⟩ := hi.heap; ⟨h, a, BV hp b⟩⟩
theorem Inv.tail {w0 w : World} {A : ae} {L : List ae} (hi : Inv w0 (A :: L) w) : Inv w0 L w :=
 ⟨hi.below, let ⟨h, a, _, _, _, _, l2, _, k⟩ := hi.heap; ⟨h, a, nD l2 k⟩⟩
theorem Inv.right {w0 w : World} {L M : List ae} (hi : Inv w0 (L ++ M) w) : Inv w0 M w :=
 ⟨hi.below, let ⟨h, a, k⟩ := hi.heap; let ⟨_, _, _, _, l2, _, k2⟩ := kD.1 k; ⟨h, a, nD l2 k2⟩⟩
theorem Inv.start (w : World) : Inv w [] w := ⟨Below.refl _ _, ⟨fun _ => none, ⟨fun _ _ e => (by simp at e), trivial⟩⟩⟩
theorem Inv.pS {w0 w : World} {A : ae} {L : List ae} {ι : Sort _} {K : ι → Prop} {B : ι → List ae} (hA : ∀ h, A w0 h → ∃ i, K i ∧ cA w0 (B i) h) (hi : Inv w0 (A :: L) w) : ∃ i, K i ∧ Inv w0 (B i ++ L) w := by
 obtain ⟨hb, h, a, h1, h2, d, l1, l2, p, k⟩ := hi
 obtain ⟨i, c, s⟩ := hA h1 p
 exact ⟨i, c, hb, h, a, kD.2 ⟨h1, h2, d, l1, l2, s, k⟩⟩
theorem Inv.cls {w0 w : World} {A : ae} {B L : List ae} (hA : ∀ h, cA w0 B h → A w0 h) (hi : Inv w0 (B ++ L) w) : Inv w0 (A :: L) w := by
 obtain ⟨hb, h, a, k⟩ := hi
 obtain ⟨h1, h2, d, l1, l2, k1, k2⟩ := kD.1 k
 exact ⟨hb, h, a, h1, h2, d, l1, l2, hA h1 k1, k2⟩
theorem Inv.imp {w0 w : World} {A B : ae} {L : List ae} (hA : ∀ h, A w0 h → B w0 h) (hi : Inv w0 (A :: L) w) : Inv w0 (B :: L) w := by
 obtain ⟨hb, h, a, h1, h2, d, l1, l2, p, k⟩ := hi
 exact ⟨hb, h, a, h1, h2, d, l1, l2, hA _ p, k⟩
def av (b : Nat) (T : TypeId) (cs : List Value) : ae := fun _ h => h b = some (.cells cs.toArray T (0, 0))
def Pr (p : Prop) : ae := fun _ _ => p
def lK (l : List ae) : ae := fun w0 h => cA w0 l h
theorem Inv.vT {w0 w : World} {l L : List ae} (hi : Inv w0 (lK l :: L) w) : Inv w0 (l ++ L) w :=
 let ⟨_, _, k⟩ := Inv.pS (ι := Unit) (K := fun _ => True) (B := fun _ => l) (fun h s => ⟨(), trivial, s⟩) hi; k
theorem Inv.star {w0 w : World} {l L : List ae} (hi : Inv w0 (l ++ L) w) : Inv w0 (lK l :: L) w := Inv.cls (fun _ s => s) hi
theorem Inv.Dm {w0 w : World} {b : Nat} {T : TypeId} {cs : List Value} {L : List ae} (hi : Inv w0 (av b T cs :: L) w) : w0.heap.size ≤ b :=
 let ⟨_, _, a, _, _, _, l1, _, p, _⟩ := hi; (a _ _ (l1 _ _ p)).1
theorem Inv.mq {w0 w : World} {b : Nat} {T : TypeId} {cs : List Value} {L : List ae} (hi : Inv w0 (av b T cs :: L) w) : w.heap[b]? = some (.cells cs.toArray T (0, 0)) :=
 let ⟨_, _, a, _, _, _, l1, _, p, _⟩ := hi; (a _ _ (l1 _ _ p)).2
theorem Inv.jU {w0 w : World} {b : Nat} {T : TypeId} {cs : List Value} {L : List ae} (hi : Inv w0 (av b T cs :: L) w) (o : Nat) : w.cell? ⟨b, o, none⟩ = cs[o]? := by
 simp [World.cell?, hi.mq]
theorem Inv.pG {w0 w : World} {b : Nat} {T : TypeId} {cs : List Value} {L : List ae} (hi : Inv w0 (av b T cs :: L) w) (o : Nat) : w.frozen? ⟨b, o, none⟩ = false := by
 simp [World.frozen?, hi.mq]
theorem Inv.alloc {w0 w : World} {L : List ae} (hi : Inv w0 L w) (T : TypeId) (cs : List Value) : Inv w0 (av w.heap.size T cs :: L) (w.alloc (.cells cs.toArray T)) := by
 obtain ⟨hb, h, a, k⟩ := hi
 have hd : Hp.lM (fun b => if b = w.heap.size then some (Obj.cells cs.toArray T (0, 0)) else none) h := fun n => by
  by_cases e : n = w.heap.size
  ·right
   cases hn : h n with
   | none => rfl
   | some o =>
    have := (a n o hn).2
    rw [e] at this
    simp at this
  ·left; simp [e]
 refine ⟨hb.alloc hb.size _, Hp.join _ h, ?_, _, h, hd, Hp.iU _ _, Hp.iq hd, by simp [av], k⟩
 intro b o e
 unfold Hp.join at e
 by_cases hbs : b = w.heap.size
 ·subst hbs
  simp at e
  subst e
  exact ⟨hb.size, by show (w.heap.push _)[w.heap.size]? = _; simp⟩
 ·simp [hbs] at e
  obtain ⟨g1, g2⟩ := a b o e
  refine ⟨g1, ?_⟩
  show (w.heap.push _)[b]? = _
  rw [Array.getElem?_push, if_neg hbs]
  exact g2
theorem Inv.write {w0 w w' : World} {b : Nat} {T : TypeId} {cs cs' : List Value} {L : List ae} (hi : Inv w0 (av b T cs :: L) w)
  (hos : w'.os = w.os) (ht : w'.tape = w.tape) (ho : w'.output = w.output) (hs : w.heap.size ≤ w'.heap.size)
  (hblk : w'.heap[b]? = some (.cells cs'.toArray T (0, 0))) (hoth : ∀ k, k ≠ b → k < w.heap.size → w'.heap[k]? = w.heap[k]?) : Inv w0 (av b T cs' :: L) w' := by
 have hge := hi.Dm
 obtain ⟨hb, h, a, h1, h2, d, l1, l2, p, k⟩ := hi
 have hlt : ∀ j o, w.heap[j]? = some o → j < w.heap.size := fun j o e => by
  rcases Nat.lt_or_ge j w.heap.size with h | h
  ·exact h
  ·simp [Array.getElem?_eq_none h] at e
 have hd : Hp.lM (fun n => if n = b then some (Obj.cells cs'.toArray T (0, 0)) else none) h2 := fun n => by
  by_cases e : n = b
  ·right
   rcases d n with x | x
   ·rw [e, p] at x; cases x
   ·exact x
  ·left; simp [e]
 refine ⟨hb.trans ⟨hos, ht, ho, hs, fun j hj => ?_⟩, Hp.join _ h2, ?_, _, h2, hd, Hp.iU _ _, Hp.iq hd, by simp [av], k⟩
 ·have := hb.size
  exact hoth j (by omega) (by omega)
 ·intro j o e
  unfold Hp.join at e
  by_cases hj : j = b
  ·subst hj
   simp at e
   subst e
   exact ⟨hge, hblk⟩
  ·simp [hj] at e
   obtain ⟨g1, g2⟩ := a j o (l2 j o e)
   exact ⟨g1, by rw [hoth j hj (hlt j o g2)]; exact g2⟩
theorem Inv.setCell {w0 w : World} {b : Nat} {T : TypeId} {cs : List Value} {L : List ae} (hi : Inv w0 (av b T cs :: L) w) (o : Nat) (v : Value) : Inv w0 (av b T (cs.set o v) :: L) (w.setCell ⟨b, o, none⟩ v) := by
 refine hi.write rfl rfl rfl (by simp) ?_ ?_
 ·simp [World.setCell, Array.getElem?_modify, hi.mq]
 ·intro k hk _
  exact Below.heap_setCell _ _ _ _ hk
theorem Inv.drew {w0 w : World} {L : List ae} (hi : Inv w0 L w) : Inv w0 L w.drew :=
 ⟨hi.below.drew, hi.heap⟩
abbrev Env := List (Nat × Value)
def Env.get : Env → Nat → Option Value
 | [], _ => none
 | (k, v) :: E, d => cond (Nat.beq k d) (some v) (Env.get E d)
structure Ctx where
 P : Program
 w0 : World
 n : Nat
 D : List Deferred
 X : List PanicEntry → List ae → Prop
structure gf (C : Ctx) (E : Env) (a : Act) : Prop where
 defers : a.defers = C.D
 size : a.tmps.size = C.n
 get : ∀ d v, E.get d = some v → a.tmps[d]? = some v
def ay (E : Env) : Operand → Option Value
 | .tmp t => E.get t
 | .const v => some v
 | .global g => some (.pointer (some ⟨g, 0, none⟩))
 | .func f => some (.func (.func f) #[] #[])
theorem gf.eval {C : Ctx} {E : Env} {a : Act} (h : gf C E a) {x : Operand} {v : Value} (e : ay E x = some v) : a.eval x = v := by
 cases x with
 | tmp t => simp only [ay] at e; simp [Act.eval, h.get t v e]
 | const u => simpa [ay, Act.eval] using e
 | global g => simpa [ay, Act.eval] using e
 | func f => simpa [ay, Act.eval] using e
theorem Env.iF (k : Nat) (v : Value) (E : Env) (d : Nat) : Env.get ((k, v) :: E) d = if k = d then some v else Env.get E d := by
 simp only [Env.get]
 by_cases h : k = d
 ·subst h; simp
 ·have : Nat.beq k d = false := by
   cases hb : Nat.beq k d with
   | false => rfl
   | true => exact absurd (Nat.eq_of_beq_eq_true hb) h
  simp [this, h]
theorem gf.put {C : Ctx} {E : Env} {a : Act} (h : gf C E a) {d : Nat} (hd : d < C.n) (v : Value) : gf C ((d, v) :: E) (a.put (some d) v) := by
 refine ⟨h.defers, by simp [Act.put, h.size], fun k u e => ?_⟩
 rw [Env.iF] at e
 simp only [Act.put, Array.getElem?_setIfInBounds]
 by_cases hk : d = k
 ·subst hk
  simp at e
  simp [h.size, hd, e]
 ·simp only [hk, if_false] at e ⊢
  exact h.get k u e
def Le (E' E : Env) : Prop := ∀ d v, E'.get d = some v → E.get d = some v
theorem gf.le {C : Ctx} {E E' : Env} {a : Act} (h : gf C E a) (l : Le E' E) : gf C E' a := ⟨h.defers, h.size, fun d v e => h.get d v (l d v e)⟩
theorem Le.refl (E : Env) : Le E E := fun _ _ e => e
theorem Le.nil (E : Env) : Le [] E := fun _ _ e => by cases e
theorem Le.cons {E E' : Env} {d : Nat} {v : Value} (h : E.get d = some v) (l : Le E' E) : Le ((d, v) :: E') E := fun k u e => by
 rw [Env.iF] at e
 by_cases hk : d = k
 ·subst hk; simp at e; rw [← e]; exact h
 ·simp only [hk, if_false] at e; exact l k u e
abbrev QT := Exit → Env → List ae → Prop
def Qh (C : Ctx) (Q : QT) : Exit → Act → World → Prop := fun e a w => ∃ E L, gf C E a ∧ Inv C.w0 L w ∧ Q e E L
def Wp (C : Ctx) (c : Code) (Q : QT) (E : Env) (L : List ae) : Prop := ∀ a w, gf C E a → Inv C.w0 L w → c.wp C.P (Qh C Q) a w
def dk (C : Ctx) (ops : Array Oper) (l : List Oper) (Q : QT) (E : Env) (L : List ae) : Prop := ∀ a w, gf C E a → Inv C.w0 L w → wpList C.P ops (Qh C Q) l a w
def iJ (k : Env → List ae → Prop) (Q : QT) : QT := fun e E L => match e with | .normal => k E L | e => Q e E L
def jD (id : Nat) (Q : QT) : QT := fun e E L => match e with | .exit i => cond (Nat.beq i id) (Q .normal E L) (Q (.exit i) E L) | e => Q e E L
section
variable {C : Ctx} {Q : QT} {E : Env} {L : List ae}
theorem Wp.mono {c : Code} {Q' : QT} (h : Wp C c Q E L) (hq : ∀ e E L, Q e E L → Q' e E L) : Wp C c Q' E L :=
 fun a w ha hi => Code.wp_mono (fun e a w ⟨E, L, x, y, z⟩ => ⟨E, L, x, y, hq e E L z⟩) (h a w ha hi)
theorem Wp.weaken {c : Code} {E' : Env} {L' : List ae} (h : Wp C c Q E' L') (l : Le E' E) (hp : L.Perm L') : Wp C c Q E L :=
 fun a w ha hi => h a w (ha.le l) (hi.perm hp)
theorem bW {c : Code} (E' : Env) (l : Le E' E) (h : Wp C c Q E' L) : Wp C c Q E L := h.weaken l (List.Perm.refl _)
theorem Kr {c : Code} {L' : List ae} (hp : L.Perm L') (h : Wp C c Q E L') : Wp C c Q E L := h.weaken (Le.refl _) hp
theorem eK {c : Code} {A : ae} {ι : Sort _} {K : ι → Prop} {B : ι → List ae} (hA : ∀ h, A C.w0 h → ∃ i, K i ∧ cA C.w0 (B i) h)
  (k : ∀ i, K i → Wp C c Q E (B i ++ L)) : Wp C c Q E (A :: L) := fun a w ha hi => let ⟨i, c, s⟩ := hi.pS hA; k i c a w ha s
theorem ja {x y : Code} (h : Wp C x (iJ (fun E L => Wp C y Q E L) Q) E L) : Wp C (.seq x y) Q E L := fun a w ha hi =>
 Go.wp_seq (Code.wp_mono (fun e a w ⟨E, L, ha, hi, q⟩ => by
  cases e with
  | normal => exact q a w ha hi
  | exit _ => exact ⟨E, L, ha, hi, q⟩
  | goto _ => exact ⟨E, L, ha, hi, q⟩
  | ret => exact ⟨E, L, ha, hi, q⟩
  | panic _ => exact ⟨E, L, ha, hi, q⟩
  | outgrown => exact ⟨E, L, ha, hi, q⟩) (h a w ha hi))
theorem bp {k : Env → List ae → Prop} (h : k E L) : iJ k Q .normal E L := h
theorem I5 (h : Q .normal E L) : Wp C .skip Q E L := fun a w ha hi => Go.wp_skip ⟨E, L, ha, hi, h⟩
theorem Gt (h : Q .ret E L) : Wp C .ret Q E L := fun a w ha hi => Go.wp_ret ⟨E, L, ha, hi, h⟩
theorem Kp {id : Nat} (h : Q (.exit id) E L) : Wp C (.exit id) Q E L := fun a w ha hi => Go.wp_exit ⟨E, L, ha, hi, h⟩
theorem oI {id : Nat} {c : Code} (h : Wp C c (jD id Q) E L) : Wp C (.block id c) Q E L := fun a w ha hi =>
 Go.wp_block (Code.wp_mono (fun e a w ⟨E, L, ha, hi, q⟩ => by
  cases e with
  | exit i =>
   simp only [jD] at q
   simp only [Exit.inBlock]
   by_cases hid : i = id
   ·subst hid
    simp at q ⊢
    exact ⟨E, L, ha, hi, q⟩
   ·have : Nat.beq i id = false := by
     cases hb : Nat.beq i id with
     | false => rfl
     | true => exact absurd (Nat.eq_of_beq_eq_true hb) hid
    simp [this] at q
    simp only [hid, if_false]
    exact ⟨E, L, ha, hi, q⟩
  | normal => exact ⟨E, L, ha, hi, q⟩
  | goto _ => exact ⟨E, L, ha, hi, q⟩
  | ret => exact ⟨E, L, ha, hi, q⟩
  | panic _ => exact ⟨E, L, ha, hi, q⟩
  | outgrown => exact ⟨E, L, ha, hi, q⟩) (h a w ha hi))
theorem tb {c : Operand} {x y : Code} {b : Bool} (hc : ay E c = some (.bool b)) (ht : b = true → Wp C x Q E L) (hf : b = false → Wp C y Q E L) : Wp C (.cond c x y) Q E L :=
 fun a w ha hi => Go.wp_cond_split (ha.eval hc) (fun e => ht e a w ha hi) (fun e => hf e a w ha hi)
theorem oq {c : Operand} {x y : Code} (hc : ay E c = some (.bool true)) (h : Wp C x Q E L) : Wp C (.cond c x y) Q E L :=
 fun a w ha hi => Go.wp_cond_true (ha.eval hc) (h a w ha hi)
theorem lL {c : Operand} {x y : Code} (hc : ay E c = some (.bool false)) (h : Wp C y Q E L) : Wp C (.cond c x y) Q E L :=
 fun a w ha hi => Go.wp_cond_false (ha.eval hc) (h a w ha hi)
theorem aj {c : Operand} {x y : Code} {p : Prop} [Decidable p] (hc : ay E c = some (.bool (decide p))) (ht : p → Wp C x Q E L) (hf : ¬ p → Wp C y Q E L) : Wp C (.cond c x y) Q E L :=
 tb hc (fun e => ht (of_decide_eq_true e)) (fun e => hf (of_decide_eq_false e))
theorem Kw {c : Code} (R : Nat → Env → List ae → Prop) (m : Nat) (h0 : R m E L)
  (h : ∀ m E L, R m E L → Wp C c (iJ (fun E' L' => ∃ m', m' < m ∧ R m' E' L') Q) E L) : Wp C (.loop c) Q E L := by
 intro a w ha hi b k cs
 have key : ∀ n a w, (∃ E L, gf C E a ∧ Inv C.w0 L w ∧ R n E L) →
   ∃ e a' w', Qh C Q e a' w' ∧ Arrives C.P (lone (b.at a (.code c :: .inLoop c :: k)) cs w) b k cs e a' w' := by
  intro n
  induction n using Nat.strongRecOn with
  | _ n ih =>
   rintro a w ⟨E, L, ha, hi, hR⟩
   obtain ⟨e, a₁, w₁, hq, harr⟩ := h n E L hR a w ha hi b (.inLoop c :: k) cs
   cases e with
   | normal =>
    obtain ⟨E₁, L₁, ha₁, hi₁, m', hlt, hR₁⟩ := hq
    obtain ⟨e₂, a₂, w₂, hq₂, harr₂⟩ := ih m' hlt a₁ w₁ ⟨E₁, L₁, ha₁, hi₁, hR₁⟩
    exact ⟨e₂, a₂, w₂, hq₂, .of_steps (Steps.trans harr (.one step_inLoop)) harr₂⟩
   | exit id => exact ⟨_, a₁, w₁, hq, .pass (x := .inLoop c) rfl (fun _ _ => .inl (by simp)) harr⟩
   | goto l => exact ⟨_, a₁, w₁, hq, .pass (x := .inLoop c) rfl (fun _ _ => .inl (by simp)) harr⟩
   | ret => exact ⟨_, a₁, w₁, hq, .pass (x := .inLoop c) rfl (fun _ _ => .inl (by simp)) harr⟩
   | panic ch => exact ⟨_, a₁, w₁, hq, .pass (x := .inLoop c) rfl (fun _ _ => .inl (by simp)) harr⟩
   | outgrown => exact ⟨_, a₁, w₁, hq, .pass (x := .inLoop c) rfl (fun _ _ => .inl (by simp)) harr⟩
 obtain ⟨e, a', w', hq, harr⟩ := key m a w ⟨E, L, ha, hi, h0⟩
 exact ⟨e, a', w', hq, .of_steps (.one step_loop) harr⟩
end
end Go.Sl

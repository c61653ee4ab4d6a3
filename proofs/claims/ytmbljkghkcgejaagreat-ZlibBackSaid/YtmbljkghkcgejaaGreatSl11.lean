/- Walks of functions that the law reaches, and what they lean on; no conditions. -/
import Derived.Test.YtmbljkghkcgejaaGreatSl10
set_option linter.unusedVariables false
set_option linter.unusedSimpArgs false
set_option maxRecDepth 100000
namespace Go.Sl
open Go.RowKit (Below)
def cK (p : Option Addr) : Nat := match p with | some a => a.block | none => 0
def pH (p : Option Addr) : Nat := match p with | some a => a.off | none => 0
structure Ec (α : Type) where
 T : TypeId
 sz : Nat
 e : α → List Value
 d : α
 len : ∀ x, (e x).length = sz
 one : ∀ x, (e x).all Value.oneCell' = true
def Ec.g {α : Type} (c : Ec α) (l : List α) (i : Int) : α := l.getD i.toNat c.d
theorem Ec.s9 {α : Type} (c : Ec α) {l : List α} {k : Nat} (h : k < l.length) : c.g l (k : Int) = l[k] := by simp [Ec.g, h]
abbrev qE (T : TypeId) (k : IntKind) : Ec Int := ⟨T, 1, fun x => [.int k x], 0, fun _ => rfl, fun _ => rfl⟩
abbrev OE (T : TypeId) : Ec Bool := ⟨T, 1, fun x => [.bool x], false, fun _ => rfl, fun _ => rfl⟩
def Row {α : Type} (c : Ec α) (p : Option Addr) (n cap : Nat) (l : List α) : ae := fun w0 h => l.length = n ∧ Sl p n cap c.T c.sz (l.flatMap c.e) w0 h
def bJ {α : Type} (c : Ec α) (p : Option Addr) (n : Nat) (l : List α) : ae := fun w0 h => l.length = n ∧ Rd p n c.sz (l.flatMap c.e) w0 h
theorem Row.rd {α : Type} {c : Ec α} {p : Option Addr} {n cap : Nat} {l : List α} {w0 : World} {h : Hp} (hr : Row c p n cap l w0 h) : bJ c p n l w0 h := ⟨hr.1, Sl.rd hr.2⟩
theorem jf {α : Type} (c : Ec α) (l : List α) : (l.flatMap c.e).length = l.length * c.sz := by
 induction l with
 | nil => simp
 | cons x l ih => simp only [List.flatMap_cons, List.length_append, c.len, ih, List.length_cons, Nat.succ_mul]; omega
theorem nh {α : Type} (c : Ec α) : ∀ (l : List α) (i f : Nat) (h : i < l.length), f < c.sz → (l.flatMap c.e)[i * c.sz + f]? = (c.e l[i])[f]?
 | x :: l, 0, f, h, hf => by simp only [List.flatMap_cons, Nat.zero_mul, Nat.zero_add, List.getElem_cons_zero]; rw [List.getElem?_append_left (by rw [c.len]; exact hf)]
 | x :: l, i + 1, f, h, hf => by
  simp only [List.flatMap_cons, List.getElem_cons_succ]
  rw [List.getElem?_append_right (by rw [c.len, Nat.succ_mul]; omega), c.len, show (i + 1) * c.sz + f - c.sz = i * c.sz + f by rw [Nat.succ_mul]; omega]
  exact nh c l i f (by simpa using h) hf
theorem qU {α : Type} (c : Ec α) : ∀ (l : List α) (i : Nat), (l.flatMap c.e).drop (i * c.sz) = (l.drop i).flatMap c.e
 | l, 0 => by simp
 | [], i + 1 => by simp
 | x :: l, i + 1 => by
  simp only [List.flatMap_cons, List.drop_succ_cons]
  rw [show (i + 1) * c.sz = (c.e x).length + i * c.sz by rw [c.len, Nat.succ_mul]; omega, ← List.drop_drop, List.drop_left]
  exact qU c l i
theorem qb {α : Type} (c : Ec α) : ∀ (l : List α) (i : Nat), (l.flatMap c.e).take (i * c.sz) = (l.take i).flatMap c.e
 | l, 0 => by simp
 | [], i + 1 => by simp
 | x :: l, i + 1 => by
  simp only [List.flatMap_cons, List.take_succ_cons]
  rw [show (i + 1) * c.sz = (c.e x).length + i * c.sz by rw [c.len, Nat.succ_mul]; omega, List.take_length_add_append]
  rw [qb c l i]
theorem yc {α : Type} (c : Ec α) : ∀ (l : List α) (i f : Nat) (h : i < l.length) (v : Value) (y : α), f < c.sz → (c.e l[i]).set f v = c.e y → (l.flatMap c.e).set (i * c.sz + f) v = (l.set i y).flatMap c.e
 | x :: l, 0, f, h, v, y, hf, e => by
  simp only [List.flatMap_cons, Nat.zero_mul, Nat.zero_add, List.set_cons_zero]
  rw [List.set_append_left _ _ (by rw [c.len]; exact hf)]
  rw [← e]; rfl
 | x :: l, i + 1, f, h, v, y, hf, e => by
  simp only [List.flatMap_cons, List.set_cons_succ]
  rw [List.set_append_right _ _ (by rw [c.len, Nat.succ_mul]; omega), c.len, show (i + 1) * c.sz + f - c.sz = i * c.sz + f by rw [Nat.succ_mul]; omega]
  rw [yc c l i f (by simpa using h) v y hf (by simpa using e)]
theorem CR {α : Type} (c : Ec α) (l : List α) (i : Nat) (h : i < l.length) (y : α) : (l.flatMap c.e).take (i * c.sz) ++ c.e y ++ (l.flatMap c.e).drop (i * c.sz + c.sz) = (l.set i y).flatMap c.e := by
 rw [qb, show i * c.sz + c.sz = (i + 1) * c.sz by rw [Nat.succ_mul], qU]
 rw [List.set_eq_take_append_cons_drop, if_pos h]
 simp
theorem xy {α : Type} (c : Ec α) (l : List α) : (l.flatMap c.e).all Value.oneCell' = true := by
 simp only [List.all_eq_true]
 intro v hv
 obtain ⟨x, _, hx⟩ := List.mem_flatMap.1 hv
 exact List.all_eq_true.1 (c.one x) v hx
def Has {α : Type} (w0 : World) (L : List ae) (c : Ec α) (p : Option Addr) (n : Nat) (l : List α) : Prop := ∃ R, R ∈ L ∧ ∀ h, R w0 h → bJ c p n l w0 h
theorem own {α : Type} {w0 : World} {L : List ae} {c : Ec α} {p : Option Addr} {n cap : Nat} {l : List α} (hm : Row c p n cap l ∈ L) : Has w0 L c p n l := ⟨_, hm, fun _ h => Row.rd h⟩
theorem bd {α : Type} {w0 : World} {L : List ae} {R : ae} {c : Ec α} {p : Option Addr} {n : Nat} {l : List α} (hR : ∀ w0 h, R w0 h → bJ c p n l w0 h) (hm : R ∈ L) : Has w0 L c p n l := ⟨R, hm, fun h hh => hR w0 h hh⟩
theorem Has.fact {α : Type} {w0 w : World} {L : List ae} {c : Ec α} {p : Option Addr} {n : Nat} {l : List α} (H : Has w0 L c p n l) (hi : Inv w0 L w) :
  l.length = n ∧ (n = 0 ∨ ∃ b o, p = some ⟨b, o, none⟩ ∧ ∀ i v, (l.flatMap c.e)[i]? = some v → w.cell? ⟨b, o + i, none⟩ = some v) := by
 obtain ⟨R, hm, hR⟩ := H
 obtain ⟨F, hb, h, a, h1, h2, d, l1, l2, hp, k⟩ := hi.mem hm
 obtain ⟨e0, e1, e2⟩ := hR h1 hp
 refine ⟨e0, e2.imp id ?_⟩
 rintro ⟨b, o, rfl, hc⟩
 exact ⟨b, o, rfl, fun i v hv => tB hb (fun b o e => a b o (l1 b o e)) (hc i v hv)⟩
theorem Has.len {α : Type} {w0 w : World} {L : List ae} {c : Ec α} {p : Option Addr} {n : Nat} {l : List α} (H : Has w0 L c p n l) (hi : Inv w0 L w) : l.length = n := (H.fact hi).1
section
variable {C : Ctx} {Q : QT} {E : Env} {L L' F : List ae} {ops : Array Oper} {rest : List Oper} {d : Nat} {ty : TypeId} {pos : String} {aft : Array Edge} {op : Op} {v : Value} {α : Type} {c : Ec α}
theorem vz {cd : Code} {p : Option Addr} {n : Nat} {l : List α} (H : Has C.w0 L c p n l) (k : l.length = n → Wp C cd Q E L) : Wp C cd Q E L := od (fun w hi => H.len hi) k
theorem vA {cd : Code} {p : Option Addr} {n cap : Nat} {l : List α} (hm : Row c p n cap l ∈ L) (k : n ≤ cap → Wp C cd Q E L) : Wp C cd Q E L := od (p := n ≤ cap) (fun w hi => by
 obtain ⟨F, hb, h, a, h1, h2, d, l1, l2, hp, _⟩ := hi.mem hm
 rcases hp.2 with ⟨rfl, rfl, rfl, _⟩ | ⟨b, o, pre, post, _, _, _, _, _, e⟩
 ·exact Nat.le_refl _
 ·exact e) k
theorem bX.Cg {p : Prop} (h : ∀ w, Inv C.w0 L w → p) (k : p → bX C op ty E L v L') : bX C op ty E L v L' := fun d pos aft g a w ha hi => k (h w hi) d pos aft g a w ha hi
theorem oA {x ix : Operand} {t by_ n cap : Nat} {p : Option Addr} {k : IntKind} {i : Int} {l : List α} (ht : sliceB C.P t = some (c.T, c.sz, by_)) (h : ay E x = some (.slice p n cap)) (hi : ay E ix = some (.int k i)) (H : Has C.w0 L c p n l) (h0 : 0 ≤ i) (hlt : i < n) :
  bX C (.indexAddr t x ix) ty E L (.pointer (some ⟨cK p, pH p + i.toNat * c.sz, none⟩)) L :=
 bX.Cg (p := ∃ b o, p = some ⟨b, o, none⟩) (fun w hi => by
  obtain ⟨_, e⟩ := H.fact hi
  rcases e with e | ⟨b, o, e, _⟩
  ·omega
  ·exact ⟨b, o, e⟩) (by
  rintro ⟨b, o, rfl⟩
  exact HA i.toNat (by omega) ht h hi (by omega))
theorem lT {x : Operand} {t n : Nat} {p : Option Addr} {i : Int} {l : List α} (f : Nat) (hs : cZ C.P t = true) (hx : ay E x = some (.pointer (some ⟨cK p, pH p + i.toNat * c.sz + f, none⟩))) (H : Has C.w0 L c p n l) (h0 : 0 ≤ i) (hlt : i < n) (hf : Nat.blt f c.sz = true) (hv : (c.e (c.g l i))[f]? = some v) : bX C (.load t x) ty E L v L :=
 zP hs hx fun w hi => by
  obtain ⟨e1, e2⟩ := H.fact hi
  rcases e2 with e2 | ⟨b, o, e3, e4⟩
  ·omega
  ·subst e3
   show w.cell? ⟨b, o + i.toNat * c.sz + f, none⟩ = some v
   rw [Nat.add_assoc]
   refine e4 _ _ ?_
   rw [nh c l i.toNat f (by omega) (fM hf), ← hv]
   simp [Ec.g, show i.toNat < l.length by omega]
theorem ye {x : Operand} {t n : Nat} {p : Option Addr} {i : Int} {l : List α} (hs : cZ C.P t = true) (hx : ay E x = some (.pointer (some ⟨cK p, pH p + i.toNat * c.sz, none⟩))) (H : Has C.w0 L c p n l) (h0 : 0 ≤ i) (hlt : i < n) (hf : Nat.blt 0 c.sz = true) (hv : (c.e (c.g l i))[0]? = some v) : bX C (.load t x) ty E L v L :=
 lT 0 hs hx H h0 hlt hf hv
theorem dQ {x : Operand} {t n : Nat} {p : Option Addr} {i : Int} {l : List α} {us : List Value} (hs : jR C.P t = some c.sz) (hx : ay E x = some (.pointer (some ⟨cK p, pH p + i.toNat * c.sz, none⟩))) (H : Has C.w0 L c p n l) (h0 : 0 ≤ i) (hlt : i < n) (hv : c.e (c.g l i) = us) : bX C (.load t x) ty E L (.agg us.toArray) L :=
 bX.Cg (p := ∃ b o, p = some ⟨b, o, none⟩) (fun w hi => by
  obtain ⟨_, e⟩ := H.fact hi
  rcases e with e | ⟨b, o, e, _⟩
  ·omega
  ·exact ⟨b, o, e⟩) (by
  rintro ⟨b, o, rfl⟩
  refine sT hs hx (by rw [← hv, c.len]) fun w hi j v hj => ?_
  obtain ⟨e1, e2⟩ := H.fact hi
  rcases e2 with e2 | ⟨b', o', e3, e4⟩
  ·omega
  ·cases e3
   show w.cell? ⟨b, o + i.toNat * c.sz + j, none⟩ = some v
   rw [Nat.add_assoc]
   refine e4 _ _ ?_
   have hjl := (List.getElem?_eq_some_iff.1 hj).1
   rw [← hv, c.len] at hjl
   rw [nh c l i.toNat j (by omega) hjl, ← hj, ← hv]
   simp [Ec.g, show i.toNat < l.length by omega])
theorem EI {x z : Operand} {t n cap : Nat} {p : Option Addr} {i : Int} {l : List α} {u : Value} (f : Nat) (y : α) (hs : cZ C.P t = true) (hx : ay E x = some (.pointer (some ⟨cK p, pH p + i.toNat * c.sz + f, none⟩))) (hy : ay E z = some u) (h1 : u.oneCell' = true)
  (hr : ks L (Row c p n cap l) (Row c p n cap (l.set i.toNat y)) L') (h0 : 0 ≤ i) (hlt : i < n) (hf : Nat.blt f c.sz = true) (hv : (c.e (c.g l i)).set f u = c.e y) : bX C (.store t x z) ty E L undef L' := by
 intro d pos aft g a w ha hi
 obtain ⟨F, p1, p2⟩ := hr.perm
 have hi1 := hi.perm p1
 obtain ⟨e1, e2⟩ := (own (w0 := C.w0) (L := Row c p n cap l :: F) ak).fact hi1
 obtain ⟨b, o, rfl⟩ : ∃ b o, p = some ⟨b, o, none⟩ := by
  rcases e2 with e2 | ⟨b, o, e2, _⟩
  ·omega
  ·exact ⟨b, o, e2⟩
 have hi2 : Inv C.w0 (Sl (some ⟨b, o, none⟩) n cap c.T c.sz (l.flatMap c.e) :: F) w := hi1.imp (fun h hh => hh.2)
 have hil : i.toNat < l.length := by omega
 have hil2 : i.toNat * c.sz + f < (l.flatMap c.e).length := by
  rw [jf]
  have : (i.toNat + 1) * c.sz ≤ l.length * c.sz := Nat.mul_le_mul_right _ hil
  rw [Nat.succ_mul] at this
  have := fM hf
  omega
 obtain ⟨w', hr', hi', _⟩ := E8 (C := C) (E := E) (ty := ty) (L := Sl (some ⟨b, o, none⟩) n cap c.T c.sz (l.flatMap c.e) :: F) (vs' := (l.set i.toNat y).flatMap c.e) (i.toNat * c.sz + f) hs hx hy h1 ks.head (by show o + i.toNat * c.sz + f = _; omega) hil2 (yc c l i.toNat f hil u y (fM hf) (by rw [← hv]; simp [Ec.g, hil])) d pos aft g a w ha hi2
 exact ⟨w', hr', (hi'.imp (fun h hh => ⟨by simp [e1], hh⟩)).perm p2, fun h => by cases h⟩
theorem eb {x z : Operand} {t n cap : Nat} {p : Option Addr} {i : Int} {l : List α} {u : Value} (y : α) (hs : cZ C.P t = true) (hx : ay E x = some (.pointer (some ⟨cK p, pH p + i.toNat * c.sz, none⟩))) (hy : ay E z = some u) (h1 : u.oneCell' = true)
  (hr : ks L (Row c p n cap l) (Row c p n cap (l.set i.toNat y)) L') (h0 : 0 ≤ i) (hlt : i < n) (hf : Nat.blt 0 c.sz = true) (hv : (c.e (c.g l i)).set 0 u = c.e y) : bX C (.store t x z) ty E L undef L' :=
 EI 0 y hs hx hy h1 hr h0 hlt hf hv
theorem jg {x z : Operand} {t n cap : Nat} {p : Option Addr} {i : Int} {l : List α} {us : List Value} (y : α) (hs : jR C.P t = some c.sz) (hx : ay E x = some (.pointer (some ⟨cK p, pH p + i.toNat * c.sz, none⟩))) (hy : ay E z = some (.agg us.toArray))
  (hr : ks L (Row c p n cap l) (Row c p n cap (l.set i.toNat y)) L') (h0 : 0 ≤ i) (hlt : i < n) (hv : us = c.e y) : bX C (.store t x z) ty E L undef L' := by
 intro d pos aft g a w ha hi
 subst hv
 obtain ⟨F, p1, p2⟩ := hr.perm
 have hi1 := hi.perm p1
 obtain ⟨e1, e2⟩ := (own (w0 := C.w0) (L := Row c p n cap l :: F) ak).fact hi1
 obtain ⟨b, o, rfl⟩ : ∃ b o, p = some ⟨b, o, none⟩ := by
  rcases e2 with e2 | ⟨b, o, e2, _⟩
  ·omega
  ·exact ⟨b, o, e2⟩
 have hil : i.toNat < l.length := by omega
 have hi2 : Inv C.w0 (Sl (some ⟨b, o, none⟩) n cap c.T c.sz (l.flatMap c.e) :: F) w := hi1.imp (fun h hh => hh.2)
 obtain ⟨zz, hzz, hi3⟩ := hi2.pS (Sl.open_ C.w0)
 cases zz with
 | none => cases hzz.1
 | some zz =>
  obtain ⟨b', o', pre, post⟩ := zz
  obtain ⟨e3, e4, e5, e6, e7⟩ := hzz
  cases e3
  have hle : (i.toNat + 1) * c.sz ≤ l.length * c.sz := Nat.mul_le_mul_right _ hil
  rw [Nat.succ_mul] at hle
  have hfl := jf c l
  obtain ⟨w', hr', hi', _⟩ := fc (C := C) (E := E) (ty := ty) (L := av b c.T (pre ++ l.flatMap c.e ++ post) :: F) (o := o + i.toNat * c.sz) (cs' := pre ++ (l.set i.toNat y).flatMap c.e ++ post) hs hx hy (c.one y) (c.len y) ks.head (by simp only [List.length_append]; omega) (by
   rw [← CR c l i.toNat hil y]
   have t1 : (pre ++ l.flatMap c.e ++ post).take (o + i.toNat * c.sz) = pre ++ (l.flatMap c.e).take (i.toNat * c.sz) := by
    rw [List.append_assoc, List.take_append, e4, List.take_of_length_le (by omega), show o + i.toNat * c.sz - o = i.toNat * c.sz by omega, List.take_append_of_le_length (by omega)]
   have t2 : (pre ++ l.flatMap c.e ++ post).drop (o + i.toNat * c.sz + c.sz) = (l.flatMap c.e).drop (i.toNat * c.sz + c.sz) ++ post := by
    rw [List.append_assoc, List.drop_append, e4, List.drop_of_length_le (by omega), List.nil_append, show o + i.toNat * c.sz + c.sz - o = i.toNat * c.sz + c.sz by omega, List.drop_append_of_le_length (by omega)]
   rw [t1, t2]
   simp [List.append_assoc]) d pos aft g a w ha (by simpa using hi3)
  refine ⟨w', hr', Inv.perm ?_ p2, fun h => by cases h⟩
  refine Inv.cls (B := [av b c.T (pre ++ (l.set i.toNat y).flatMap c.e ++ post)]) (fun h hc => ⟨by simp [e1], Sl.mk hc e4 (by rw [jf, List.length_set]; rw [hfl] at e5; exact e5) e6 e7⟩) hi'
theorem nC {s x : Operand} {t by_ n m cap cap2 : Nat} {p p2 : Option Addr} {l l2 : List α} {F : List ae} {zs : List Value}
  (ht : sliceB C.P t = some (c.T, c.sz, by_)) (hz : dc C.P c.T = some zs) (hsz : Nat.ble 1 c.sz = true) (hby : Nat.ble 1 by_ = true)
  (hs : ay E s = some (.slice p n cap)) (hx : ay E x = some (.slice p2 m cap2)) (hL : iK L (Row c p n cap l) F) (H : Has C.w0 L c p2 m l2) (hb : (n + m) * by_ ≤ 140737488355328) :
  lB C (.call ⟨.builtin .append, [s, x].toArray, #[t, t]⟩) ty E L (fun v L' => ∃ p' cap', v = .slice p' (n + m) cap' ∧ L' = Row c p' (n + m) cap' (l ++ l2) :: F) := by
 intro d pos aft g a w K Qx ha hi hK
 obtain ⟨R, hm, hR⟩ := H
 have hl2 : l2.length = m := (Has.fact ⟨R, hm, hR⟩ hi).1
 have hl1 : l.length = n := ((own (w0 := C.w0) (L := Row c p n cap l :: F) ak).fact (hi.perm hL.perm)).1
 by_cases hRe : R ∈ F
 ·have hi2 : Inv C.w0 (Sl p n cap c.T c.sz (l.flatMap c.e) :: F) w := (hi.perm hL.perm).imp (fun h hh => hh.2)
  refine w2 (C := C) (E := E) (ty := ty) (vs := l.flatMap c.e) (ws := l2.flatMap c.e) (R := R) ht hz hsz hby hs hx iK.head (List.mem_cons_of_mem _ hRe) (fun h hh => (hR h hh).2) (xy c l2) hb d pos aft g a w K Qx ha hi2 ?_
  rintro v L' w' ⟨p', cap', e1, e2⟩ hi'
  subst e2
  exact hK v _ w' ⟨p', cap', e1, rfl⟩ (hi'.imp (fun h hh => ⟨by simp [hl1, hl2], by rw [List.flatMap_append]; exact hh⟩))
 ·have hRr : R = Row c p n cap l := by
   have := hL.perm.mem_iff.1 hm
   rcases List.mem_cons.1 this with e | e
   ·exact e
   ·exact absurd e hRe
  subst hRr
  have hi2 : Inv C.w0 (Sl p n cap c.T c.sz (l.flatMap c.e) :: F) w := (hi.perm hL.perm).imp (fun h hh => hh.2)
  refine w2 (C := C) (E := E) (ty := ty) (vs := l.flatMap c.e) (ws := l2.flatMap c.e) (R := Sl p n cap c.T c.sz (l.flatMap c.e)) ht hz hsz hby hs hx iK.head (List.mem_cons_self) (fun h hh => (hR h ⟨hl1, hh⟩).2) (xy c l2) hb d pos aft g a w K Qx ha hi2 ?_
  rintro v L' w' ⟨p', cap', e1, e2⟩ hi'
  subst e2
  exact hK v _ w' ⟨p', cap', e1, rfl⟩ (hi'.imp (fun h hh => ⟨by simp [hl1, hl2], by rw [List.flatMap_append]; exact hh⟩))
theorem bQ {s x : Operand} {t by_ n m cap cap2 : Nat} {p p2 : Option Addr} {l l2 : List α} {F : List ae} {zs : List Value}
  (ht : sliceB C.P t = some (c.T, c.sz, by_)) (hz : dc C.P c.T = some zs) (hsz : Nat.ble 1 c.sz = true) (hby : Nat.ble 1 by_ = true)
  (hs : ay E s = some (.slice p n cap)) (hx : ay E x = some (.slice p2 m cap2)) (hL : iK L (Row c p n cap l) F) (H : Has C.w0 L c p2 m l2) (hb : (n + m) * by_ ≤ 140737488355328) (hd : Nat.blt d C.n = true)
  (k : ∀ p' cap', dk C ops rest Q ((d, .slice p' (n + m) cap') :: E) (Row c p' (n + m) cap' (l ++ l2) :: F)) :
  dk C ops (⟨some d, .call ⟨.builtin .append, [s, x].toArray, #[t, t]⟩, ty, pos, aft, none⟩ :: rest) Q E L :=
 nY (nC ht hz hsz hby hs hx hL H hb) hd fun v L' ⟨p', cap', e1, e2⟩ => by subst e1; subst e2; exact k p' cap'
theorem yG {x y : Operand} {t by_ : Nat} {k1 k2 : IntKind} {i1 i2 : Int} {zs : List Value} (ht : sliceB C.P t = some (c.T, c.sz, by_)) (hz : dc C.P c.T = some zs) (hze : zs = c.e c.d) (hsz : Nat.ble 1 c.sz = true)
  (hx : ay E x = some (.int k1 i1)) (hy : ay E y = some (.int k2 i2)) (h0 : 0 ≤ i1) (hnc : i1 ≤ i2) (hb : i2 * by_ ≤ 281474976710656) (hby : Nat.ble 1 by_ = true) :
  lB C (.makeSlice t x y) ty E L (fun v L' => ∃ b, v = .slice (some ⟨b, 0, none⟩) i1.toNat i2.toNat ∧ L' = Row c (some ⟨b, 0, none⟩) i1.toNat i2.toNat (List.replicate i1.toNat c.d) :: L) := by
 intro d pos aft g a w K Qx ha hi hK
 have hby := Nat.le_of_ble_eq_true hby
 have hb' : i2.toNat * by_ ≤ 281474976710656 := by
  have : ((i2.toNat * by_ : Nat) : Int) = i2 * by_ := by rw [Int.natCast_mul]; congr 1; omega
  omega
 have h63 : i2.toNat ≤ i2.toNat * by_ := Nat.le_mul_of_pos_right _ hby
 refine IY (C := C) (E := E) (ty := ty) i1.toNat i2.toNat (by omega) (by omega) ht hz hsz hx hy (by omega) (by omega) hb' d pos aft g a w K Qx ha hi ?_
 rintro v L' w' ⟨b, e1, e2⟩ hi'
 subst e2
 refine hK v _ w' ⟨b, e1, rfl⟩ (hi'.imp (fun h hh => ⟨by simp, ?_⟩))
 have e : (List.replicate i1.toNat c.d).flatMap c.e = (List.replicate i1.toNat zs).flatten := by rw [hze, List.flatMap_replicate]
 rw [e]
 exact hh
theorem JV {x y : Operand} {t by_ : Nat} {k1 k2 : IntKind} {i1 i2 : Int} {zs : List Value} (c : Ec α) (ht : sliceB C.P t = some (c.T, c.sz, by_)) (hz : dc C.P c.T = some zs) (hze : zs = c.e c.d) (hsz : Nat.ble 1 c.sz = true)
  (hx : ay E x = some (.int k1 i1)) (hy : ay E y = some (.int k2 i2)) (h0 : 0 ≤ i1) (hnc : i1 ≤ i2) (hb : i2 * by_ ≤ 281474976710656) (hby : Nat.ble 1 by_ = true) (hd : Nat.blt d C.n = true)
  (k : ∀ b, dk C ops rest Q ((d, .slice (some ⟨b, 0, none⟩) i1.toNat i2.toNat) :: E) (Row c (some ⟨b, 0, none⟩) i1.toNat i2.toNat (List.replicate i1.toNat c.d) :: L)) : dk C ops (⟨some d, .makeSlice t x y, ty, pos, aft, none⟩ :: rest) Q E L :=
 nY (yG ht hz hze hsz hx hy h0 hnc hb hby) hd fun v L' ⟨b, e1, e2⟩ => by subst e1; subst e2; exact k b
theorem nf {t by_ len : Nat} {parts : List (Nat × Operand)} {pv : List (Nat × Value)} {zs : List Value} (c : Ec α) (l : List α) (ht : sliceB C.P t = some (c.T, c.sz, by_)) (hz : dc C.P c.T = some zs) (hsz : Nat.ble 1 c.sz = true) (hsm : Nat.ble (len * c.sz) 16777216 = true)
  (hp : qm E parts = some pv) (hf : Instr.fill (fun i => some (i * c.sz, c.sz)) ((List.replicate len zs).flatten.toArray) pv = some (l.flatMap c.e).toArray) (hl : l.length = len) :
  lB C (.buildSlice t len parts.toArray) ty E L (fun v L' => ∃ b, v = .slice (some ⟨b, 0, none⟩) len len ∧ L' = Row c (some ⟨b, 0, none⟩) len len l :: L) := by
 intro d pos aft g a w K Qx ha hi hK
 refine vS (C := C) (E := E) (ty := ty) ht hz hsz hsm (nJ hp) hf (by rw [jf, hl]) d pos aft g a w K Qx ha hi ?_
 rintro v L' w' ⟨b, e1, e2⟩ hi'
 subst e2
 exact hK v _ w' ⟨b, e1, rfl⟩ (hi'.imp (fun h hh => ⟨hl, hh⟩))
theorem bP {t by_ len : Nat} {parts : List (Nat × Operand)} {pv : List (Nat × Value)} {zs : List Value} (c : Ec α) (l : List α) (ht : sliceB C.P t = some (c.T, c.sz, by_)) (hz : dc C.P c.T = some zs) (hsz : Nat.ble 1 c.sz = true) (hsm : Nat.ble (len * c.sz) 16777216 = true)
  (hp : qm E parts = some pv) (hf : Instr.fill (fun i => some (i * c.sz, c.sz)) ((List.replicate len zs).flatten.toArray) pv = some (l.flatMap c.e).toArray) (hl : l.length = len) (hd : Nat.blt d C.n = true)
  (k : ∀ b, dk C ops rest Q ((d, .slice (some ⟨b, 0, none⟩) len len) :: E) (Row c (some ⟨b, 0, none⟩) len len l :: L)) : dk C ops (⟨some d, .buildSlice t len parts.toArray, ty, pos, aft, none⟩ :: rest) Q E L :=
 nY (nf c l ht hz hsz hsm hp hf hl) hd fun v L' ⟨b, e1, e2⟩ => by subst e1; subst e2; exact k b
end
theorem Row.nil {α : Type} (c : Ec α) (w0 : World) (h : Hp) : Row c none 0 0 [] w0 h := ⟨rfl, Sl.nil _ _ _ _⟩
theorem bJ.sub {α : Type} {c : Ec α} {p : Option Addr} {n : Nat} {l : List α} {w0 : World} {h : Hp} (hr : bJ c p n l w0 h) (a b m : Nat) (h1 : a ≤ b) (h2 : b ≤ n) (h3 : b ≤ m) : bJ c (gK p a m c.sz) (b - a) ((l.drop a).take (b - a)) w0 h := by
 obtain ⟨e0, e1, e2⟩ := hr
 refine ⟨by simp; omega, ?_⟩
 rw [← qb, ← qU]
 refine ⟨by rw [List.length_take, List.length_drop, e1]; rw [← Nat.sub_mul]; exact Nat.min_eq_left (Nat.mul_le_mul_right _ (by omega)), ?_⟩
 by_cases hab : b = a
 ·left; omega
 ·right
  rcases e2 with e2 | ⟨b', o, rfl, e2⟩
  ·omega
  ·refine ⟨b', o + a * c.sz, Bv _ _ _ _ _ (by omega), fun i v hv => ?_⟩
   rw [Nat.add_assoc]
   refine e2 _ _ ?_
   rw [List.getElem?_take] at hv
   split at hv
   ·rwa [List.getElem?_drop] at hv
   ·cases hv
end Go.Sl

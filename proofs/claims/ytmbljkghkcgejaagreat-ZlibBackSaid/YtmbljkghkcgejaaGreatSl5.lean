/- Walks of functions that the law reaches, and what they lean on; no conditions. -/
import Derived.Test.YtmbljkghkcgejaaGreatSl4
import Derived.Still
set_option linter.unusedVariables false
set_option linter.unusedSimpArgs false
set_option maxRecDepth 100000
namespace Go.Sl
open Go.RowKit (Below)
def eu (y : Nat → Value) (i : Nat) (v : Value) : Nat → Value := fun j => if j = i then v else y j
theorem ng (y : Nat → Value) (i : Nat) (v : Value) : eu y i v i = v := by simp [eu]
theorem wV {y : Nat → Value} {i j : Nat} {v : Value} (h : j ≠ i) : eu y i v j = y j := by simp [eu, h]
def QX (C : Ctx) := { Q : Exit → Act → World → Prop // ∀ ch E L a w, gf C E a → Inv C.w0 L w → C.X ch L → Q (.panic ch) a w }
def Step (C : Ctx) (ops : Array Oper) (o : Oper) (E : Env) (L : List ae) (R : Value → List ae → Prop) : Prop :=
 ∀ a w (K : Act → World → Prop) (Q : QX C), gf C E a → Inv C.w0 L w → (∀ v L' w', R v L' → Inv C.w0 L' w' → K (a.put o.dst v) w') →
  (if Region.wanted o (yielded ops a.tmps) then o.wp C.P a w K Q.1 else K (a.put o.dst undef) w)
section
variable {C : Ctx} {ops : Array Oper} {E : Env} {L L' : List ae} {R : Value → List ae → Prop} {d : Option Nat} {ty : TypeId} {pos : String} {aft : Array Edge} {op : Op} {v : Value}
theorem vW (h : lB C op ty E L R) : Step C ops ⟨d, op, ty, pos, aft, none⟩ E L R := fun a w K Q ha hi hK => by
 rw [if_pos (by simp [Region.wanted])]
 exact h d pos aft none a w K Q.1 ha hi hK
theorem cu (h : bX C op ty E L v L') (hR : R v L') : Step C ops ⟨d, op, ty, pos, aft, none⟩ E L R :=
 vW (fun d pos aft g a w K Q ha hi hK => h.x d pos aft g a w K Q ha hi (fun v' M w' ⟨e1, e2⟩ hi' => hK v' M w' (by subst e1; subst e2; exact hR) hi'))
theorem cR {j : Nat} {want : Bool} (hg : jk ops E j = some want) (h : Step C ops ⟨d, op, ty, pos, aft, none⟩ E L R) : Step C ops ⟨d, op, ty, pos, aft, some (j, want)⟩ E L R := fun a w K Q ha hi hK => by
 have hw := kg (o := ⟨d, op, ty, pos, aft, some (j, want)⟩) ha hg rfl
 rw [if_pos (by rw [hw]; simp)]
 have h1 := h a w K Q ha hi hK
 rw [if_pos (by simp [Region.wanted])] at h1
 exact h1
theorem cQ {j : Nat} {want b : Bool} (hg : jk ops E j = some b) (hb : (b == want) = false) (hR : R undef L) : Step C ops ⟨d, op, ty, pos, aft, some (j, want)⟩ E L R := fun a w K Q ha hi hK => by
 have hw := kg (o := ⟨d, op, ty, pos, aft, some (j, want)⟩) ha hg rfl
 rw [if_neg (by rw [hw, hb]; simp)]
 exact hK _ _ _ hR hi
end
def mh (o : Oper) : List Nat := o.after.toList.filterMap fun e => if Region.binds .any e then some e.on else none
structure et where
 gq : List Nat
 iS : List Nat
 mb : List Nat
 lo : Nat
 hi : Nat
def mem (x : Nat) : List Nat → Bool
 | [] => false
 | y :: l => Nat.beq x y || mem x l
theorem mem_iff {x : Nat} : ∀ {l : List Nat}, mem x l = true ↔ x ∈ l
 | [] => by simp [mem]
 | y :: l => by
  simp only [mem, Bool.or_eq_true, List.mem_cons, mem_iff (l := l)]
  constructor
  ·rintro (h | h)
   ·exact .inl (Nat.eq_of_beq_eq_true h)
   ·exact .inr h
  ·rintro (h | h)
   ·exact .inl (by subst h; simp)
   ·exact .inr h
def eS (ps : List et) (i : Nat) : List Nat := match ps[i]? with | some p => p.gq | none => []
def ew (l : List Oper) (i : Nat) : Option Nat := match l[i]? with | some o => o.dst | none => none
def noSelect : Op → Bool
 | .select _ _ => false
 | _ => true
def C6 (ps : List et) : List Nat → Bool
 | [] => true
 | c :: r => r.all (fun q => mem c (eS ps q)) && C6 ps r
def xY (C : Ctx) (l : List Oper) (ps : List et) (ch : List Nat) (i : Nat) : Bool :=
 match l[i]?, ps[i]? with
 | some o, some p =>
  noSelect o.op &&
  (mh o).all (fun j => Nat.blt j i) &&
  p.gq.all (fun j => Nat.blt j i && (mem j (mh o) || (mh o).any (fun k => mem j (eS ps k)))) &&
  p.iS.all (fun j => mem j p.gq) &&
  p.mb.all (fun s => (List.range l.length).all fun j => match ew l j with | some t => !(Nat.beq t s) || Nat.beq j i || mem i (eS ps j) | none => true) &&
  (ch.take p.lo).all (fun c => mem c p.gq) && Nat.ble p.lo ch.length &&
  (match ch[p.hi]? with | some c => Nat.beq c i || mem i (eS ps c) | none => true) &&
  (match o.dst with
   | some t => Nat.blt t C.n && (List.range l.length).all (fun j => Nat.beq j i || (match ew l j with | some u => !(Nat.beq u t) | none => true))
   | none => true) &&
  (match o.guard with | some (j, _) => mem j p.iS | none => true)
 | _, _ => false
def Ot (C : Ctx) (l : List Oper) (ps : List et) (ch : List Nat) : Bool :=
 (List.range l.length).all (xY C l ps ch) && C6 ps ch && ch.all (fun c => Nat.blt c l.length) &&
 (List.range ch.length).all (fun p => match ch[p]? with | some c => (match ps[c]? with | some q => Nat.beq q.lo p && Nat.beq q.hi p | none => false) | none => false)
def rD (l : List Oper) (E0 : Env) (p : et) (y : Nat → Value) : Env :=
 (p.iS.filterMap fun j => match ew l j with | some t => some (t, y j) | none => none) ++ p.mb.filterMap fun s => match E0.get s with | some v => some (s, v) | none => none
def sA (l : List Oper) (y : Nat → Value) : Nat → Env → Env
 | 0, E => E
 | i + 1, E => match ew l i with | some t => (t, y i) :: sA l y i E | none => sA l y i E
def OB (C : Ctx) (l : List Oper) (E0 : Env) (ps : List et) (ch : List Nat) (Φ : Nat → (Nat → Value) → Prop) (Lk : Nat → (Nat → Value) → List ae) (At : Nat → (Nat → Value) → List ae) (AP : List ae → Prop) (i : Nat) : Prop :=
 ∀ o p, l[i]? = some o → ps[i]? = some p → ∀ y k A, AP A → k ≤ ch.length → p.lo ≤ k → k ≤ p.hi → (∀ j ∈ p.gq, Φ j y) → (∀ j ∈ p.gq, ∀ B ∈ At j y, B ∈ A) →
  Step C l.toArray o (rD l E0 p y) (Lk k y ++ A) (fun v L' => ∃ A', AP A' ∧ Φ i (eu y i v) ∧ L'.Perm (Lk (if mem i ch then k + 1 else k) (eu y i v) ++ A') ∧ (∀ B ∈ A, B ∈ A') ∧ (∀ B ∈ At i (eu y i v), B ∈ A'))
theorem iR (m j : Nat) : (Array.replicate m false).getD j false = false := by
 rcases Nat.lt_or_ge j m with h | h
 ·simp [h]
 ·simp [h]
theorem qN {listed : Array Bool} {i : Nat} (h : listed.getD i true = false) : listed.getD i false = false := by
 rcases Nat.lt_or_ge i listed.size with h' | h'
 ·simp [h'] at h ⊢; exact h
 ·simp [Array.getElem?_eq_none h'] at h
theorem Env.get_mem {d : Nat} {v : Value} : ∀ {E : Env}, E.get d = some v → (d, v) ∈ E
 | [], h => by cases h
 | (k, u) :: E, h => by
  rw [Env.iF] at h
  by_cases e : k = d
  ·subst e; simp at h; simp [h]
  ·simp only [e, if_false] at h; exact List.mem_cons_of_mem _ (Env.get_mem h)
section
variable {C : Ctx} {l : List Oper} {E0 : Env} {ps : List et} {ch : List Nat} {Φ : Nat → (Nat → Value) → Prop} {Lk At : Nat → (Nat → Value) → List ae} {AP : List ae → Prop}
def done (listed : Array Bool) (j : Nat) : Prop := listed.getD j false = true
structure Og (C : Ctx) (l : List Oper) (E0 : Env) (ps : List et) (ch : List Nat) (Φ : Nat → (Nat → Value) → Prop) (Lk At : Nat → (Nat → Value) → List ae) (AP : List ae → Prop)
  (listed : Array Bool) (a : Act) (w : World) (y : Nat → Value) (A : List ae) (k : Nat) : Prop where
 size : listed.size = l.length
 wz : ∀ i, done listed i → ∀ j ∈ eS ps i, done listed j
 defers : a.defers = C.D
 tp : a.tmps.size = C.n
 Bi : ∀ i, done listed i → ∀ t, ew l i = some t → a.tmps[t]? = some (y i)
 AE : ∀ s v, E0.get s = some v → (∀ j, done listed j → ew l j ≠ some s) → a.tmps[s]? = some v
 Gk : ∀ i, done listed i → Φ i y
 ats : ∀ i, done listed i → ∀ B ∈ At i y, B ∈ A
 kle : k ≤ ch.length
 ap : AP A
 kdone : ∀ q c, q < k → ch[q]? = some c → done listed c
 kun : ∀ q c, k ≤ q → ch[q]? = some c → ¬ done listed c
 inv : Inv C.w0 (Lk k y ++ A) w
structure vu (C : Ctx) (l : List Oper) (ps : List et) (ch : List Nat) (i : Nat) (o : Oper) (p : et) : Prop where
 OC : ∀ cs b, o.op ≠ .select cs b
 LN : ∀ j ∈ mh o, j < i
 gq : ∀ j ∈ p.gq, j < i ∧ (j ∈ mh o ∨ ∃ k ∈ mh o, j ∈ eS ps k)
 iS : ∀ j ∈ p.iS, j ∈ p.gq
 mb : ∀ s ∈ p.mb, ∀ j, ew l j = some s → j = i ∨ i ∈ eS ps j
 lo : ∀ c ∈ ch.take p.lo, c ∈ p.gq
 Oj : p.lo ≤ ch.length
 hi : ∀ c, ch[p.hi]? = some c → c = i ∨ i ∈ eS ps c
 dst : ∀ t, o.dst = some t → t < C.n ∧ ∀ j, j ≠ i → ew l j ≠ some t
 guard : ∀ j w, o.guard = some (j, w) → j ∈ p.iS
theorem sk {i t : Nat} (h : ew l i = some t) : i < l.length := by
 unfold ew at h
 split at h
 ·rename_i o ho; exact (List.getElem?_eq_some_iff.1 ho).1
 ·cases h
theorem uQ {i : Nat} (h : xY C l ps ch i = true) : ∃ o p, l[i]? = some o ∧ ps[i]? = some p ∧ vu C l ps ch i o p := by
 unfold xY at h
 split at h
 ·rename_i o p ho hp
  simp only [Bool.and_eq_true] at h
  obtain ⟨⟨⟨⟨⟨⟨⟨⟨⟨h1, h2⟩, h3⟩, h4⟩, h5⟩, h6⟩, h7⟩, h8⟩, h9⟩, h10⟩ := h
  refine ⟨o, p, ho, hp, ?_, ?_, ?_, ?_, ?_, ?_, Nat.le_of_ble_eq_true h7, ?_, ?_, ?_⟩
  ·intro cs b e; rw [e] at h1; cases h1
  ·intro j hj; exact fM (List.all_eq_true.1 h2 j hj)
  ·intro j hj
   have := List.all_eq_true.1 h3 j hj
   simp only [Bool.and_eq_true, Bool.or_eq_true] at this
   refine ⟨fM this.1, ?_⟩
   rcases this.2 with h | h
   ·exact .inl (mem_iff.1 h)
   ·obtain ⟨k, hk, hk2⟩ := List.any_eq_true.1 h
    exact .inr ⟨k, hk, mem_iff.1 hk2⟩
  ·intro j hj; exact mem_iff.1 (List.all_eq_true.1 h4 j hj)
  ·intro s hs j hj
   have := List.all_eq_true.1 (List.all_eq_true.1 h5 s hs) j (List.mem_range.2 (sk hj))
   simp only [hj, Bool.or_eq_true] at this
   rcases this with (h | h) | h
   ·simp at h
   ·exact .inl (Nat.eq_of_beq_eq_true h)
   ·exact .inr (mem_iff.1 h)
  ·intro c hc; exact mem_iff.1 (List.all_eq_true.1 h6 c hc)
  ·intro c hc
   rw [hc] at h8
   simp only [Bool.or_eq_true] at h8
   rcases h8 with h | h
   ·exact .inl (Nat.eq_of_beq_eq_true h)
   ·exact .inr (mem_iff.1 h)
  ·intro t ht
   rw [ht] at h9
   simp only [Bool.and_eq_true] at h9
   refine ⟨fM h9.1, fun j hj e => ?_⟩
   have := List.all_eq_true.1 h9.2 j (List.mem_range.2 (sk e))
   simp only [e, Bool.or_eq_true] at this
   rcases this with h | h
   ·exact hj (Nat.eq_of_beq_eq_true h)
   ·simp at h
  ·intro j w hg
   rw [hg] at h10
   exact mem_iff.1 h10
 ·cases h
theorem yp {i : Nat} {o : Oper} {listed : Array Bool} (ho : l[i]? = some o) (hr : i ∈ Region.ready .any l.toArray listed) : listed.getD i true = false ∧ ∀ j ∈ mh o, done listed j := by
 obtain ⟨h1, o', ho', hall⟩ := mem_ready.1 hr
 have : o' = o := by
  have h2 : l[i]? = some o' := by simpa using ho'
  rw [h2] at ho; exact Option.some.inj ho
 subst this
 refine ⟨h1, fun j hj => ?_⟩
 obtain ⟨e, he, hb⟩ := List.mem_filterMap.1 hj
 split at hb
 ·rename_i hbind
  cases hb
  exact hall e (by simpa using he) hbind
 ·cases hb
end
end Go.Sl

/- Walks of functions that the law reaches, and what they lean on; no conditions. -/
import Derived.Test.YtmbljkghkcgejaaGreatSl4
import Derived.Still
set_option linter.unusedVariables false
set_option linter.unusedSimpArgs false
set_option maxRecDepth 100000
namespace Go.Sl
open Go.RowKit (Below)
def upd (y : Nat → Value) (i : Nat) (v : Value) : Nat → Value := fun j => if j = i then v else y j
theorem upd_same (y : Nat → Value) (i : Nat) (v : Value) : upd y i v i = v := by simp [upd]
theorem upd_ne {y : Nat → Value} {i j : Nat} {v : Value} (h : j ≠ i) : upd y i v j = y j := by simp [upd, h]
def QX (C : Ctx) := { Q : Exit → Act → World → Prop // ∀ ch E L a w, Agr C E a → Inv C.w0 L w → C.X ch L → Q (.panic ch) a w }
def Step (C : Ctx) (ops : Array Oper) (o : Oper) (E : Env) (L : List HProp) (R : Value → List HProp → Prop) : Prop :=
 ∀ a w (K : Act → World → Prop) (Q : QX C), Agr C E a → Inv C.w0 L w → (∀ v L' w', R v L' → Inv C.w0 L' w' → K (a.put o.dst v) w') →
  (if Region.wanted o (yielded ops a.tmps) then o.wp C.P a w K Q.1 else K (a.put o.dst undef) w)
section
variable {C : Ctx} {ops : Array Oper} {E : Env} {L L' : List HProp} {R : Value → List HProp → Prop} {d : Option Nat} {ty : TypeId} {pos : String} {aft : Array Edge} {op : Op} {v : Value}
theorem st_x (h : OpX C op ty E L R) : Step C ops ⟨d, op, ty, pos, aft, none⟩ E L R := fun a w K Q ha hi hK => by
 rw [if_pos (by simp [Region.wanted])]
 exact h d pos aft none a w K Q.1 ha hi hK
theorem st_v (h : OpV C op ty E L v L') (hR : R v L') : Step C ops ⟨d, op, ty, pos, aft, none⟩ E L R :=
 st_x (fun d pos aft g a w K Q ha hi hK => h.x d pos aft g a w K Q ha hi (fun v' M w' ⟨e1, e2⟩ hi' => hK v' M w' (by subst e1; subst e2; exact hR) hi'))
theorem st_want {j : Nat} {want : Bool} (hg : guardE ops E j = some want) (h : Step C ops ⟨d, op, ty, pos, aft, none⟩ E L R) : Step C ops ⟨d, op, ty, pos, aft, some (j, want)⟩ E L R := fun a w K Q ha hi hK => by
 have hw := guard_spec (o := ⟨d, op, ty, pos, aft, some (j, want)⟩) ha hg rfl
 rw [if_pos (by rw [hw]; simp)]
 have h1 := h a w K Q ha hi hK
 rw [if_pos (by simp [Region.wanted])] at h1
 exact h1
theorem st_pass {j : Nat} {want b : Bool} (hg : guardE ops E j = some b) (hb : (b == want) = false) (hR : R undef L) : Step C ops ⟨d, op, ty, pos, aft, some (j, want)⟩ E L R := fun a w K Q ha hi hK => by
 have hw := guard_spec (o := ⟨d, op, ty, pos, aft, some (j, want)⟩) ha hg rfl
 rw [if_neg (by rw [hw, hb]; simp)]
 exact hK _ _ _ hR hi
end
def bindOn (o : Oper) : List Nat := o.after.toList.filterMap fun e => if Region.binds .any e then some e.on else none
structure Par where
 anc : List Nat
 deps : List Nat
 slots : List Nat
 lo : Nat
 hi : Nat
def mem (x : Nat) : List Nat → Bool
 | [] => false
 | y :: l => Nat.beq x y || mem x l
theorem mem_iff {x : Nat} : ∀ {l : List Nat}, mem x l = true ↔ x ∈ l
 | [] => by simp [mem]
 | y :: l => by
  simp only [mem, Bool.or_eq_true, List.mem_cons, mem_iff (l := l)]
  constructor
  ·rintro (h | h)
   ·exact .inl (Nat.eq_of_beq_eq_true h)
   ·exact .inr h
  ·rintro (h | h)
   ·exact .inl (by subst h; simp)
   ·exact .inr h
def ancOf (ps : List Par) (i : Nat) : List Nat := match ps[i]? with | some p => p.anc | none => []
def dstIn (l : List Oper) (i : Nat) : Option Nat := match l[i]? with | some o => o.dst | none => none
def noSelect : Op → Bool
 | .select _ _ => false
 | _ => true
def chainB (ps : List Par) : List Nat → Bool
 | [] => true
 | c :: r => r.all (fun q => mem c (ancOf ps q)) && chainB ps r
def parB (C : Ctx) (l : List Oper) (ps : List Par) (ch : List Nat) (i : Nat) : Bool :=
 match l[i]?, ps[i]? with
 | some o, some p =>
  noSelect o.op &&
  (bindOn o).all (fun j => Nat.blt j i) &&
  p.anc.all (fun j => Nat.blt j i && (mem j (bindOn o) || (bindOn o).any (fun k => mem j (ancOf ps k)))) &&
  p.deps.all (fun j => mem j p.anc) &&
  p.slots.all (fun s => (List.range l.length).all fun j => match dstIn l j with | some t => !(Nat.beq t s) || Nat.beq j i || mem i (ancOf ps j) | none => true) &&
  (ch.take p.lo).all (fun c => mem c p.anc) && Nat.ble p.lo ch.length &&
  (match ch[p.hi]? with | some c => Nat.beq c i || mem i (ancOf ps c) | none => true) &&
  (match o.dst with
   | some t => Nat.blt t C.n && (List.range l.length).all (fun j => Nat.beq j i || (match dstIn l j with | some u => !(Nat.beq u t) | none => true))
   | none => true) &&
  (match o.guard with | some (j, _) => mem j p.deps | none => true)
 | _, _ => false
def regB (C : Ctx) (l : List Oper) (ps : List Par) (ch : List Nat) : Bool :=
 (List.range l.length).all (parB C l ps ch) && chainB ps ch && ch.all (fun c => Nat.blt c l.length) &&
 (List.range ch.length).all (fun p => match ch[p]? with | some c => (match ps[c]? with | some q => Nat.beq q.lo p && Nat.beq q.hi p | none => false) | none => false)
def envOf (l : List Oper) (E0 : Env) (p : Par) (y : Nat → Value) : Env :=
 (p.deps.filterMap fun j => match dstIn l j with | some t => some (t, y j) | none => none) ++ p.slots.filterMap fun s => match E0.get s with | some v => some (s, v) | none => none
def finE (l : List Oper) (y : Nat → Value) : Nat → Env → Env
 | 0, E => E
 | i + 1, E => match dstIn l i with | some t => (t, y i) :: finE l y i E | none => finE l y i E
def Obl (C : Ctx) (l : List Oper) (E0 : Env) (ps : List Par) (ch : List Nat) (Φ : Nat → (Nat → Value) → Prop) (Lk : Nat → (Nat → Value) → List HProp) (At : Nat → (Nat → Value) → List HProp) (AP : List HProp → Prop) (i : Nat) : Prop :=
 ∀ o p, l[i]? = some o → ps[i]? = some p → ∀ y k A, AP A → k ≤ ch.length → p.lo ≤ k → k ≤ p.hi → (∀ j ∈ p.anc, Φ j y) → (∀ j ∈ p.anc, ∀ B ∈ At j y, B ∈ A) →
  Step C l.toArray o (envOf l E0 p y) (Lk k y ++ A) (fun v L' => ∃ A', AP A' ∧ Φ i (upd y i v) ∧ L'.Perm (Lk (if mem i ch then k + 1 else k) (upd y i v) ++ A') ∧ (∀ B ∈ A, B ∈ A') ∧ (∀ B ∈ At i (upd y i v), B ∈ A'))
theorem getD_replicate_false' (m j : Nat) : (Array.replicate m false).getD j false = false := by
 rcases Nat.lt_or_ge j m with h | h
 ·simp [h]
 ·simp [h]
theorem getD_both {listed : Array Bool} {i : Nat} (h : listed.getD i true = false) : listed.getD i false = false := by
 rcases Nat.lt_or_ge i listed.size with h' | h'
 ·simp [h'] at h ⊢; exact h
 ·simp [Array.getElem?_eq_none h'] at h
theorem Env.get_mem {d : Nat} {v : Value} : ∀ {E : Env}, E.get d = some v → (d, v) ∈ E
 | [], h => by cases h
 | (k, u) :: E, h => by
  rw [Env.get_cons] at h
  by_cases e : k = d
  ·subst e; simp at h; simp [h]
  ·simp only [e, if_false] at h; exact List.mem_cons_of_mem _ (Env.get_mem h)
section
variable {C : Ctx} {l : List Oper} {E0 : Env} {ps : List Par} {ch : List Nat} {Φ : Nat → (Nat → Value) → Prop} {Lk At : Nat → (Nat → Value) → List HProp} {AP : List HProp → Prop}
def done (listed : Array Bool) (j : Nat) : Prop := listed.getD j false = true
structure RInv (C : Ctx) (l : List Oper) (E0 : Env) (ps : List Par) (ch : List Nat) (Φ : Nat → (Nat → Value) → Prop) (Lk At : Nat → (Nat → Value) → List HProp) (AP : List HProp → Prop)
  (listed : Array Bool) (a : Act) (w : World) (y : Nat → Value) (A : List HProp) (k : Nat) : Prop where
 size : listed.size = l.length
 clA : ∀ i, done listed i → ∀ j ∈ ancOf ps i, done listed j
 defers : a.defers = C.D
 asize : a.tmps.size = C.n
 vals : ∀ i, done listed i → ∀ t, dstIn l i = some t → a.tmps[t]? = some (y i)
 olds : ∀ s v, E0.get s = some v → (∀ j, done listed j → dstIn l j ≠ some s) → a.tmps[s]? = some v
 phi : ∀ i, done listed i → Φ i y
 ats : ∀ i, done listed i → ∀ B ∈ At i y, B ∈ A
 kle : k ≤ ch.length
 ap : AP A
 kdone : ∀ q c, q < k → ch[q]? = some c → done listed c
 kun : ∀ q c, k ≤ q → ch[q]? = some c → ¬ done listed c
 inv : Inv C.w0 (Lk k y ++ A) w
structure ParOk (C : Ctx) (l : List Oper) (ps : List Par) (ch : List Nat) (i : Nat) (o : Oper) (p : Par) : Prop where
 sel : ∀ cs b, o.op ≠ .select cs b
 edges : ∀ j ∈ bindOn o, j < i
 anc : ∀ j ∈ p.anc, j < i ∧ (j ∈ bindOn o ∨ ∃ k ∈ bindOn o, j ∈ ancOf ps k)
 deps : ∀ j ∈ p.deps, j ∈ p.anc
 slots : ∀ s ∈ p.slots, ∀ j, dstIn l j = some s → j = i ∨ i ∈ ancOf ps j
 lo : ∀ c ∈ ch.take p.lo, c ∈ p.anc
 lole : p.lo ≤ ch.length
 hi : ∀ c, ch[p.hi]? = some c → c = i ∨ i ∈ ancOf ps c
 dst : ∀ t, o.dst = some t → t < C.n ∧ ∀ j, j ≠ i → dstIn l j ≠ some t
 guard : ∀ j w, o.guard = some (j, w) → j ∈ p.deps
theorem dstIn_lt {i t : Nat} (h : dstIn l i = some t) : i < l.length := by
 unfold dstIn at h
 split at h
 ·rename_i o ho; exact (List.getElem?_eq_some_iff.1 ho).1
 ·cases h
theorem parB_spec {i : Nat} (h : parB C l ps ch i = true) : ∃ o p, l[i]? = some o ∧ ps[i]? = some p ∧ ParOk C l ps ch i o p := by
 unfold parB at h
 split at h
 ·rename_i o p ho hp
  simp only [Bool.and_eq_true] at h
  obtain ⟨⟨⟨⟨⟨⟨⟨⟨⟨h1, h2⟩, h3⟩, h4⟩, h5⟩, h6⟩, h7⟩, h8⟩, h9⟩, h10⟩ := h
  refine ⟨o, p, ho, hp, ?_, ?_, ?_, ?_, ?_, ?_, Nat.le_of_ble_eq_true h7, ?_, ?_, ?_⟩
  ·intro cs b e; rw [e] at h1; cases h1
  ·intro j hj; exact blt_lt (List.all_eq_true.1 h2 j hj)
  ·intro j hj
   have := List.all_eq_true.1 h3 j hj
   simp only [Bool.and_eq_true, Bool.or_eq_true] at this
   refine ⟨blt_lt this.1, ?_⟩
   rcases this.2 with h | h
   ·exact .inl (mem_iff.1 h)
   ·obtain ⟨k, hk, hk2⟩ := List.any_eq_true.1 h
    exact .inr ⟨k, hk, mem_iff.1 hk2⟩
  ·intro j hj; exact mem_iff.1 (List.all_eq_true.1 h4 j hj)
  ·intro s hs j hj
   have := List.all_eq_true.1 (List.all_eq_true.1 h5 s hs) j (List.mem_range.2 (dstIn_lt hj))
   simp only [hj, Bool.or_eq_true] at this
   rcases this with (h | h) | h
   ·simp at h
   ·exact .inl (Nat.eq_of_beq_eq_true h)
   ·exact .inr (mem_iff.1 h)
  ·intro c hc; exact mem_iff.1 (List.all_eq_true.1 h6 c hc)
  ·intro c hc
   rw [hc] at h8
   simp only [Bool.or_eq_true] at h8
   rcases h8 with h | h
   ·exact .inl (Nat.eq_of_beq_eq_true h)
   ·exact .inr (mem_iff.1 h)
  ·intro t ht
   rw [ht] at h9
   simp only [Bool.and_eq_true] at h9
   refine ⟨blt_lt h9.1, fun j hj e => ?_⟩
   have := List.all_eq_true.1 h9.2 j (List.mem_range.2 (dstIn_lt e))
   simp only [e, Bool.or_eq_true] at this
   rcases this with h | h
   ·exact hj (Nat.eq_of_beq_eq_true h)
   ·simp at h
  ·intro j w hg
   rw [hg] at h10
   exact mem_iff.1 h10
 ·cases h
theorem bind_listed {i : Nat} {o : Oper} {listed : Array Bool} (ho : l[i]? = some o) (hr : i ∈ Region.ready .any l.toArray listed) : listed.getD i true = false ∧ ∀ j ∈ bindOn o, done listed j := by
 obtain ⟨h1, o', ho', hall⟩ := mem_ready.1 hr
 have : o' = o := by
  have h2 : l[i]? = some o' := by simpa using ho'
  rw [h2] at ho; exact Option.some.inj ho
 subst this
 refine ⟨h1, fun j hj => ?_⟩
 obtain ⟨e, he, hb⟩ := List.mem_filterMap.1 hj
 split at hb
 ·rename_i hbind
  cases hb
  exact hall e (by simpa using he) hbind
 ·cases hb
end
end Go.Sl

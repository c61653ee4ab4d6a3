/- Walks of functions that the law reaches, and what they lean on; no conditions. -/
import Derived.Test.YtmbljkghkcgejaaGreatSl22
import Derived.Still
set_option linter.unusedVariables false
set_option linter.unusedSimpArgs false
set_option maxRecDepth 100000
namespace Go.Sl
def fx (C : Ctx) (all : Array Oper) (l : List Oper) (Q : QT) (E : Env) (L : List ae) : Prop := ∀ a w, gf C E a → Inv C.w0 L w → wpStill C.P all w (fun a' => Qh C Q .normal a' w) l a
def qZ (all : Array Oper) : Nat → List Oper → Bool
 | _, [] => true
 | i, o :: os => o.after.toList.all (fun e => !Region.binds .any e || Nat.blt e.on i) && os.all (fun oj => oj.after.toList.any (fun e => Region.binds .any e && Nat.beq e.on i) || o.apart all oj) && qZ all (i + 1) os
def Ce (l : List Oper) : Bool := l.all (fun o => noSelect o.op) && qZ l.toArray 0 l
theorem oS {all : Array Oper} : ∀ {l : List Oper} {i : Nat}, qZ all i l = true → ∀ {k : Nat} {o : Oper}, l[k]? = some o → (∀ e ∈ o.after.toList, Region.binds .any e = true → e.on < i + k) ∧ ∀ j oj, k < j → l[j]? = some oj → (∃ e ∈ oj.after.toList, Region.binds .any e = true ∧ e.on = i + k) ∨ o.apart all oj = true
 | [], i, _, k, o, h => by simp at h
 | x :: l, i, hB, 0, o, h => by
  simp at h
  subst h
  simp only [qZ, Bool.and_eq_true] at hB
  refine ⟨fun e he hb => ?_, fun j oj hj hoj => ?_⟩
  ·have := List.all_eq_true.1 hB.1.1 e he
   rw [hb] at this
   simpa using fM (by simpa using this)
  ·obtain ⟨j, rfl⟩ : ∃ j', j = j' + 1 := ⟨j - 1, by omega⟩
   have := List.all_eq_true.1 hB.1.2 oj (List.mem_of_getElem? (by simpa using hoj))
   simp only [Bool.or_eq_true, List.any_eq_true, Bool.and_eq_true] at this
   rcases this with ⟨e, he, h1, h2⟩ | h
   ·exact .inl ⟨e, he, h1, Nat.eq_of_beq_eq_true h2⟩
   ·exact .inr h
 | x :: l, i, hB, k + 1, o, h => by
  simp only [qZ, Bool.and_eq_true] at hB
  obtain ⟨h1, h2⟩ := oS hB.2 (by simpa using h : l[k]? = some o)
  refine ⟨fun e he hb => by have := h1 e he hb; omega, fun j oj hj hoj => ?_⟩
  obtain ⟨j, rfl⟩ : ∃ j', j = j' + 1 := ⟨j - 1, by omega⟩
  rcases h2 j oj (by omega) (by simpa using hoj) with ⟨e, he, hb, hon⟩ | h
  ·exact .inl ⟨e, he, hb, by omega⟩
  ·exact .inr h
def lD (n k : Nat) : Array Bool := ((List.range n).map fun j => decide (j < k)).toArray
theorem o8 {n k j : Nat} (d : Bool) (h : j < n) : (lD n k).getD j d = decide (j < k) := by
 simp [lD, h]
theorem M5 {n k j : Nat} (d : Bool) (h : n ≤ j) : (lD n k).getD j d = d := by
 simp [lD, h]
theorem EN {n k : Nat} (h : k < n) : (lD n k).setIfInBounds k true = lD n (k + 1) := by
 apply Array.ext
 ·simp [lD]
 ·intro i h1 h2
  simp [lD] at h1 h2
  rw [Array.getElem_setIfInBounds (by simpa [lD] using h1)]
  simp only [lD, List.getElem_toArray, List.getElem_map, List.getElem_range]
  by_cases e : k = i
  ·subst e; simp
  ·rw [if_neg e]
   rw [decide_eq_decide]
   omega
theorem Dl {l : List Oper} (hB : qZ l.toArray 0 l = true) : ∀ (m k : Nat), k + m = l.length → Region.lexFrom .any l.toArray m k (lD l.length k) = true
 | 0, k, h => by
  simp only [Region.lexFrom, List.isEmpty_iff]
  apply List.eq_nil_iff_forall_not_mem.2
  intro i hi
  obtain ⟨h1, o, ho, _⟩ := mem_ready.1 hi
  have hlt : i < l.length := by
   have : l[i]? = some o := by simpa using ho
   exact (List.getElem?_eq_some_iff.1 this).1
  rw [o8 _ hlt] at h1
  simp at h1
  omega
 | m + 1, k, h => by
  have hk : k < l.length := by omega
  obtain ⟨o, ho⟩ : ∃ o, l[k]? = some o := ⟨l[k], List.getElem?_eq_getElem hk⟩
  obtain ⟨h1, h2⟩ := oS hB ho
  rw [Nat.zero_add] at h1 h2
  have hoA : l.toArray[k]? = some o := by simpa using ho
  simp only [Region.lexFrom, Bool.and_eq_true]
  refine ⟨⟨?_, ?_⟩, ?_⟩
  ·rw [List.contains_iff_mem]
   refine mem_ready.2 ⟨by rw [o8 _ hk]; simp, o, hoA, fun e he hb => ?_⟩
   have := h1 e (by simpa using he) hb
   rw [o8 _ (by omega)]
   simpa using this
  ·simp only [Region.free, hoA, List.all_eq_true, List.mem_range]
   intro j hj
   have hj : j < l.length := by simpa using hj
   obtain ⟨oj, hoj⟩ : ∃ oj, l[j]? = some oj := ⟨l[j], List.getElem?_eq_getElem hj⟩
   have hojA : l.toArray[j]? = some oj := by simpa using hoj
   simp only [hojA, Bool.or_eq_true]
   rcases Nat.lt_trichotomy j k with h3 | h3 | h3
   ·left; right
    rw [o8 _ hj]; simpa using h3
   ·left; left; simp [h3]
   ·right
    rcases h2 j oj h3 hoj with ⟨e, he, hb, hon⟩ | h
    ·left
     rw [Array.any_eq_true']
     exact ⟨e, by simpa using he, by rw [hb, hon]; simp⟩
    ·exact .inr h
  ·rw [EN hk]
   exact Dl hB m (k + 1) (by omega)
theorem zF {l : List Oper} (h : Ce l = true) : Region.lexB .any l.toArray = true := by
 unfold Ce at h
 simp only [Bool.and_eq_true] at h
 have e : Array.replicate l.toArray.size false = lD l.length 0 := by
  apply Array.ext
  ·simp [lD]
  ·intro i h1 h2; simp [lD]
 simp only [Region.lexB, Bool.and_eq_true]
 refine ⟨?_, ?_⟩
 ·unfold Region.noSelect
  rw [Array.all_eq_true_iff_forall_mem]
  intro o ho
  have := List.all_eq_true.1 h.1 o (by simpa using ho)
  unfold noSelect at this
  split <;> simp_all
 ·rw [e]
  have := Dl h.2 l.length 0 (by omega)
  simpa using this
section
variable {C : Ctx} {Q : QT} {E : Env} {L : List ae} {ops : Array Oper} {rest : List Oper} {d : Nat} {ty : TypeId} {pos : String} {aft : Array Edge} {op : Op} {v : Value}
theorem lz {id : Nat} {l : List Oper} (hm : C.P.follows .mixedOrders = true) (hB : Ce l = true) (h : fx C l.toArray l Q E L) : Wp C (.region id l.toArray true) Q E L :=
 fun a w ha hi => wp_region_still_lit hm (zF hB) (h a _ ha hi.drew)
namespace Rg
theorem bC (h : Q .normal E L) : fx C ops [] Q E L := fun a w ha hi => ⟨E, L, ha, hi, h⟩
theorem Nj (E' : Env) (l : Le E' E) (h : fx C ops rest Q E' L) : fx C ops rest Q E L := fun a w ha hi => h a w (ha.le l) hi
theorem td (h : bX C op ty E L v L) (hd : Nat.blt d C.n = true) (hk : Gw op v = true) (k : fx C ops rest Q ((d, v) :: E) L) : fx C ops (⟨some d, op, ty, pos, aft, none⟩ :: rest) Q E L := by
 intro a w ha hi
 refine wpStill_step fun K hK => ?_
 rw [if_pos (by simp [Region.wanted])]
 obtain ⟨w', _, _, hr⟩ := h (some d) pos aft none a w ha hi
 unfold Oper.still
 rw [hr hk, Oper.stillUpon_value]
 exact hK _ (k _ _ (ha.put (fM hd) _) hi)
theorem al {dst : Option Nat} {j : Nat} {want : Bool} (hg : jk ops E j = some want) (h : fx C ops (⟨dst, op, ty, pos, aft, none⟩ :: rest) Q E L) : fx C ops (⟨dst, op, ty, pos, aft, some (j, want)⟩ :: rest) Q E L := by
 intro a w ha hi
 have h1 := h a w ha hi
 have hw := kg (o := ⟨dst, op, ty, pos, aft, some (j, want)⟩) ha hg rfl
 unfold wpStill at h1 ⊢
 rw [if_pos (by simp [Region.wanted])] at h1
 rw [if_pos (by rw [hw]; simp)]
 exact h1
theorem xj {j : Nat} {want b : Bool} (hg : jk ops E j = some b) (hb : (b == want) = false) (hd : Nat.blt d C.n = true) (h : fx C ops rest Q ((d, undef) :: E) L) : fx C ops (⟨some d, op, ty, pos, aft, some (j, want)⟩ :: rest) Q E L := by
 intro a w ha hi
 have hw := kg (o := ⟨some d, op, ty, pos, aft, some (j, want)⟩) ha hg rfl
 unfold wpStill
 rw [if_neg (by rw [hw, hb]; simp)]
 exact h _ _ (ha.put (fM hd) _) hi
theorem tO {j t : Nat} {want : Bool} {oj : Oper} (h1 : ops[j]? = some oj) (h2 : oj.dst = some t) (h3 : E.get t = some undef) (hd : Nat.blt d C.n = true) (h : fx C ops rest Q ((d, undef) :: E) L) : fx C ops (⟨some d, op, ty, pos, aft, some (j, want)⟩ :: rest) Q E L := by
 intro a w ha hi
 have hw := qC (o := ⟨some d, op, ty, pos, aft, some (j, want)⟩) ha h1 h2 h3 rfl
 unfold wpStill
 rw [if_neg (by rw [hw]; simp)]
 exact h _ _ (ha.put (fM hd) _) hi
theorem xa {b : Bool} (t : Nat) (ht : E.get t = some (.bool b)) (hT : b = true → fx C ops rest Q ((t, .bool true) :: E) L) (hF : b = false → fx C ops rest Q ((t, .bool false) :: E) L) : fx C ops rest Q E L := by
 have key : ∀ c : Bool, b = c → Le ((t, .bool c) :: E) E := fun c e => by subst e; exact Le.cons ht (Le.refl _)
 intro a w ha hi
 cases b with
 | true => exact hT rfl a w (ha.le (key _ rfl)) hi
 | false => exact hF rfl a w (ha.le (key _ rfl)) hi
theorem ee {p : Prop} [Decidable p] (t : Nat) (ht : E.get t = some (.bool (decide p))) (hT : p → fx C ops rest Q ((t, .bool true) :: E) L) (hF : ¬ p → fx C ops rest Q ((t, .bool false) :: E) L) : fx C ops rest Q E L :=
 xa t ht (fun e => hT (of_decide_eq_true e)) (fun e => hF (of_decide_eq_false e))
end Rg
theorem BI {T : mH} {E : Env} {q : Option Prop} {v : Value} {o : Op} (h : evalOp T E o = some (q, v)) : Gw o v = true := by
 unfold evalOp at h
 split at h
 ·rfl
 ·rfl
 ·rfl
 ·rfl
 ·rfl
 ·rfl
 ·rfl
 ·split at h
  ·split at h
   ·split at h
    ·cases h; rfl
    ·cases h; rfl
    ·cases h
   ·cases h
  ·cases h
 ·split at h
  ·split at h
   ·split at h <;> first | (cases h; done) | (cases h; rfl) | (split at h <;> first | (cases h; done) | (cases h; rfl))
   ·cases h
  ·cases h
 ·cases h
def sc (T : mH) (n : Nat) (all : Array Oper) : Nat → List Oper → Env → Option Prop → Option (Option Prop × List Oper × Env)
 | 0, l, E, p => some (p, l, E)
 | k + 1, l, E, p => (match nP T n ⟨[], E, .ops all l⟩ with
  | some (q, s) => (match s.pos with
   | .ops _ l' => (match q with
    | none => sc T n all k l' s.E p
    | some q => (match p with | none => sc T n all k l' s.E (some q) | some p => sc T n all k l' s.E (some (p ∧ q))))
   | _ => none)
  | none => none)
theorem uE {T : mH} (hT : dJ C.P T = true) {l : List Oper} {all a2 : Array Oper} {l' : List Oper} {fr' : List Fr} {E' : Env} {q : Option Prop} (h : nP T C.n ⟨[], E, .ops all l⟩ = some (q, ⟨fr', E', .ops a2 l'⟩)) (hq : tD q) (g : fx C all l' Q E' L) : fx C all l Q E L := by
 cases l with
 | nil => cases h
 | cons o os =>
  simp only [nP] at h
  split at h
  ·cases h
  ·rename_i d hd
   split at h
   ·cases h
   ·rename_i hn
    have plain : ∀ {o : Oper} {v : Value}, o.dst = some d → o.guard = none → evalOp T E o.op = some (q, v) → fx C all os Q ((d, v) :: E) L → fx C all (o :: os) Q E L := by
     rintro ⟨dst, op, ty, pos, aft, gd⟩ v h1 h2 h3 h4
     simp only at h1 h2 h3
     subst h1; subst h2
     exact Rg.td (r6 hT h3 hq) hn (BI h3) h4
    split at h
    ·split at h
     ·rename_i hg _ _ _ hv; cases h; exact plain hd hg hv g
     ·cases h
    ·rename_i j want hg
     split at h
     ·rename_i hs
      split at h
      ·rename_i hv
       cases h
       obtain ⟨dst, op, ty, pos, aft, gd⟩ := o
       simp only at hg hd
       subst hg; subst hd
       refine Rg.al ?_ (plain (o := ⟨_, op, ty, pos, aft, none⟩) rfl rfl hv g)
       exact xU hs
      ·cases h
     ·rename_i hs
      cases h
      obtain ⟨dst, op, ty, pos, aft, gd⟩ := o
      simp only at hg hd
      subst hg; subst hd
      rcases xZ hs with ⟨b, h1, h2⟩ | ⟨oj, t, h1, h2, h3⟩
      ·exact Rg.xj h1 h2 hn g
      ·exact Rg.tO h1 h2 h3 hn g
     ·cases h
theorem oH {T : mH} (hT : dJ C.P T = true) {all : Array Oper} : ∀ (k : Nat) {l l' : List Oper} {E E' : Env} {p q : Option Prop}, sc T C.n all k l E p = some (q, l', E') → tD q → (tD p → fx C all l' Q E' L → fx C all l Q E L) ∧ tD p
 | 0, l, l', E, E', p, q, h, hq => by cases h; exact ⟨fun _ g => g, hq⟩
 | k + 1, l, l', E, E', p, q, h, hq => by
  simp only [sc] at h
  split at h
  ·rename_i q1 s1 h1
   obtain ⟨fr1, E1, pos1⟩ := s1
   cases pos1 with
   | ops a2 l2 =>
    simp only at h
    cases q1 with
    | none =>
     obtain ⟨h2, h3⟩ := oH hT k h hq
     exact ⟨fun hp g => uE hT h1 trivial (h2 hp g), h3⟩
    | some r =>
     cases p with
     | none =>
      obtain ⟨h2, h3⟩ := oH hT k h hq
      exact ⟨fun _ g => uE hT h1 h3 (h2 h3 g), trivial⟩
     | some p' =>
      obtain ⟨h2, h3⟩ := oH hT k h hq
      exact ⟨fun _ g => uE hT h1 h3.2 (h2 h3 g), h3.1⟩
   | code _ => cases h
   | norm => cases h
   | exit _ => cases h
   | ret => cases h
  ·cases h
theorem rR {T : mH} (hT : dJ C.P T = true) (k : Nat) {all : Array Oper} {l l' : List Oper} {E' : Env} (h : sc T C.n all k l E none = some (none, l', E')) (g : fx C all l' Q E' L) : fx C all l Q E L := (oH hT k h trivial).1 trivial g
theorem mn {T : mH} (hT : dJ C.P T = true) (k : Nat) {all : Array Oper} {l l' : List Oper} {E' : Env} {p : Prop} (h : sc T C.n all k l E none = some (some p, l', E')) (hp : p) (g : fx C all l' Q E' L) : fx C all l Q E L := (oH hT k h hp).1 trivial g
end
end Go.Sl

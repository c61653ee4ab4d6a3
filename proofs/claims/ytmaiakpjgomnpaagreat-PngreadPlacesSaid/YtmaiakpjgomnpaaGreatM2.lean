/- Walks of functions that the law reaches, and what they lean on; no conditions. -/
import Derived.Test.YtmaiakpjgomnpaaGreatM1
import Derived.Still
import Derived.Lib.ConvBytes
import Derived.ChangeKeysEq
set_option linter.unusedVariables false
set_option linter.unusedSimpArgs false
set_option maxRecDepth 100000
namespace Go.Sl
def eG (C : Ctx) (all : Array Oper) (l : List Oper) (Q : QT) (E : Env) (L : List ab) : Prop := ∀ a w, ft C E a → Inv C.w0 L w → wpStill C.P all w (fun a' => Qh C Q .normal a' w) l a
def qJ (all : Array Oper) : Nat → List Oper → Bool
  | _, [] => true
  | i, o :: os => o.after.toList.all (fun e => !Region.binds .any e || Nat.blt e.on i) && os.all (fun oj => oj.after.toList.any (fun e => Region.binds .any e && Nat.beq e.on i) || o.apart all oj) && qJ all (i + 1) os
def EO (l : List Oper) : Bool := l.all (fun o => noSelect o.op) && qJ l.toArray 0 l
theorem oz {all : Array Oper} : ∀ {l : List Oper} {i : Nat}, qJ all i l = true → ∀ {k : Nat} {o : Oper}, l[k]? = some o → (∀ e ∈ o.after.toList, Region.binds .any e = true → e.on < i + k) ∧ ∀ j oj, k < j → l[j]? = some oj → (∃ e ∈ oj.after.toList, Region.binds .any e = true ∧ e.on = i + k) ∨ o.apart all oj = true
  | [], i, _, k, o, h => by simp at h
  | x :: l, i, hB, 0, o, h => by
    simp at h
    subst h
    simp only [qJ, Bool.and_eq_true] at hB
    refine ⟨fun e he hb => ?_, fun j oj hj hoj => ?_⟩
    · have := List.all_eq_true.1 hB.1.1 e he
      rw [hb] at this
      simpa using fe (by simpa using this)
    · obtain ⟨j, rfl⟩ : ∃ j', j = j' + 1 := ⟨j - 1, by omega⟩
      have := List.all_eq_true.1 hB.1.2 oj (List.mem_of_getElem? (by simpa using hoj))
      simp only [Bool.or_eq_true, List.any_eq_true, Bool.and_eq_true] at this
      rcases this with ⟨e, he, h1, h2⟩ | h
      · exact .inl ⟨e, he, h1, Nat.eq_of_beq_eq_true h2⟩
      · exact .inr h
  | x :: l, i, hB, k + 1, o, h => by
    simp only [qJ, Bool.and_eq_true] at hB
    obtain ⟨h1, h2⟩ := oz hB.2 (by simpa using h : l[k]? = some o)
    refine ⟨fun e he hb => by have := h1 e he hb; omega, fun j oj hj hoj => ?_⟩
    obtain ⟨j, rfl⟩ : ∃ j', j = j' + 1 := ⟨j - 1, by omega⟩
    rcases h2 j oj (by omega) (by simpa using hoj) with ⟨e, he, hb, hon⟩ | h
    · exact .inl ⟨e, he, hb, by omega⟩
    · exact .inr h
def kv (n k : Nat) : Array Bool := ((List.range n).map fun j => decide (j < k)).toArray
theorem oc {n k j : Nat} (d : Bool) (h : j < n) : (kv n k).getD j d = decide (j < k) := by
  simp [kv, h]
theorem W9 {n k j : Nat} (d : Bool) (h : n ≤ j) : (kv n k).getD j d = d := by
  simp [kv, h]
theorem GK {n k : Nat} (h : k < n) : (kv n k).setIfInBounds k true = kv n (k + 1) := by
  apply Array.ext
  · simp [kv]
  · intro i h1 h2
    simp [kv] at h1 h2
    rw [Array.getElem_setIfInBounds (by simpa [kv] using h1)]
    simp only [kv, List.getElem_toArray, List.getElem_map, List.getElem_range]
    by_cases e : k = i
    · subst e; simp
    · rw [if_neg e]
      rw [decide_eq_decide]
      omega
theorem Eh {l : List Oper} (hB : qJ l.toArray 0 l = true) : ∀ (m k : Nat), k + m = l.length → Region.lexFrom .any l.toArray m k (kv l.length k) = true
  | 0, k, h => by
    simp only [Region.lexFrom, List.isEmpty_iff]
    apply List.eq_nil_iff_forall_not_mem.2
    intro i hi
    obtain ⟨h1, o, ho, _⟩ := mem_ready.1 hi
    have hlt : i < l.length := by
      have : l[i]? = some o := by simpa using ho
      exact (List.getElem?_eq_some_iff.1 this).1
    rw [oc _ hlt] at h1
    simp at h1
    omega
  | m + 1, k, h => by
    have hk : k < l.length := by omega
    obtain ⟨o, ho⟩ : ∃ o, l[k]? = some o := ⟨l[k], List.getElem?_eq_getElem hk⟩
    obtain ⟨h1, h2⟩ := oz hB ho
    rw [Nat.zero_add] at h1 h2
    have hoA : l.toArray[k]? = some o := by simpa using ho
    simp only [Region.lexFrom, Bool.and_eq_true]
    refine ⟨⟨?_, ?_⟩, ?_⟩
    · rw [List.contains_iff_mem]
      refine mem_ready.2 ⟨by rw [oc _ hk]; simp, o, hoA, fun e he hb => ?_⟩
      have := h1 e (by simpa using he) hb
      rw [oc _ (by omega)]
      simpa using this
    · simp only [Region.free, hoA, List.all_eq_true, List.mem_range]
      intro j hj
      have hj : j < l.length := by simpa using hj
      obtain ⟨oj, hoj⟩ : ∃ oj, l[j]? = some oj := ⟨l[j], List.getElem?_eq_getElem hj⟩
      have hojA : l.toArray[j]? = some oj := by simpa using hoj
      simp only [hojA, Bool.or_eq_true]
      rcases Nat.lt_trichotomy j k with h3 | h3 | h3
      · left; right
        rw [oc _ hj]; simpa using h3
      · left; left; simp [h3]
      · right
        rcases h2 j oj h3 hoj with ⟨e, he, hb, hon⟩ | h
        · left
          rw [Array.any_eq_true']
          exact ⟨e, by simpa using he, by rw [hb, hon]; simp⟩
        · exact .inr h
    · rw [GK hk]
      exact Eh hB m (k + 1) (by omega)
theorem z8 {l : List Oper} (h : EO l = true) : Region.lexB .any l.toArray = true := by
  unfold EO at h
  simp only [Bool.and_eq_true] at h
  have e : Array.replicate l.toArray.size false = kv l.length 0 := by
    apply Array.ext
    · simp [kv]
    · intro i h1 h2; simp [kv]
  simp only [Region.lexB, Bool.and_eq_true]
  refine ⟨?_, ?_⟩
  · unfold Region.noSelect
    rw [Array.all_eq_true_iff_forall_mem]
    intro o ho
    have := List.all_eq_true.1 h.1 o (by simpa using ho)
    unfold noSelect at this
    split <;> simp_all
  · rw [e]
    have := Eh h.2 l.length 0 (by omega)
    simpa using this
section
variable {C : Ctx} {Q : QT} {E : Env} {L : List ab} {ops : Array Oper} {rest : List Oper} {d : Nat} {ty : TypeId} {pos : String} {aft : Array Edge} {op : Op} {v : Value}
theorem WX {id : Nat} {l : List Oper} (hm : C.P.follows .mixedOrders = true) (hB : EO l = true) (h : eG C l.toArray l Q E L) : Wp C (.region id l.toArray true) Q E L :=
  fun a w ha hi => wp_region_still_lit hm (z8 hB) (h a _ ha hi.drew)
namespace Rg
theorem df (h : Q .normal E L) : eG C ops [] Q E L := fun a w ha hi => ⟨E, L, ha, hi, h⟩
theorem Yr (E' : Env) (l : Le E' E) (h : eG C ops rest Q E' L) : eG C ops rest Q E L := fun a w ha hi => h a w (ha.le l) hi
theorem tQ (h : bB C op ty E L v L) (hd : Nat.blt d C.n = true) (hk : IY op v = true) (k : eG C ops rest Q ((d, v) :: E) L) : eG C ops (⟨some d, op, ty, pos, aft, none⟩ :: rest) Q E L := by
  intro a w ha hi
  refine wpStill_step fun K hK => ?_
  rw [if_pos (by simp [Region.wanted])]
  obtain ⟨w', _, _, hr⟩ := h (some d) pos aft none a w ha hi
  unfold Oper.still
  rw [hr hk, Oper.stillUpon_value]
  exact hK _ (k _ _ (ha.put (fe hd) _) hi)
theorem cL {dst : Option Nat} {j : Nat} {want : Bool} (hg : iT ops E j = some want) (h : eG C ops (⟨dst, op, ty, pos, aft, none⟩ :: rest) Q E L) : eG C ops (⟨dst, op, ty, pos, aft, some (j, want)⟩ :: rest) Q E L := by
  intro a w ha hi
  have h1 := h a w ha hi
  have hw := jF (o := ⟨dst, op, ty, pos, aft, some (j, want)⟩) ha hg rfl
  unfold wpStill at h1 ⊢
  rw [if_pos (by simp [Region.wanted])] at h1
  rw [if_pos (by rw [hw]; simp)]
  exact h1
theorem wP {j : Nat} {want b : Bool} (hg : iT ops E j = some b) (hb : (b == want) = false) (hd : Nat.blt d C.n = true) (h : eG C ops rest Q ((d, undef) :: E) L) : eG C ops (⟨some d, op, ty, pos, aft, some (j, want)⟩ :: rest) Q E L := by
  intro a w ha hi
  have hw := jF (o := ⟨some d, op, ty, pos, aft, some (j, want)⟩) ha hg rfl
  unfold wpStill
  rw [if_neg (by rw [hw, hb]; simp)]
  exact h _ _ (ha.put (fe hd) _) hi
theorem uk {j t : Nat} {want : Bool} {oj : Oper} (h1 : ops[j]? = some oj) (h2 : oj.dst = some t) (h3 : E.get t = some undef) (hd : Nat.blt d C.n = true) (h : eG C ops rest Q ((d, undef) :: E) L) : eG C ops (⟨some d, op, ty, pos, aft, some (j, want)⟩ :: rest) Q E L := by
  intro a w ha hi
  have hw := o8 (o := ⟨some d, op, ty, pos, aft, some (j, want)⟩) ha h1 h2 h3 rfl
  unfold wpStill
  rw [if_neg (by rw [hw]; simp)]
  exact h _ _ (ha.put (fe hd) _) hi
theorem yn {b : Bool} (t : Nat) (ht : E.get t = some (.bool b)) (hT : b = true → eG C ops rest Q ((t, .bool true) :: E) L) (hF : b = false → eG C ops rest Q ((t, .bool false) :: E) L) : eG C ops rest Q E L := by
  have key : ∀ c : Bool, b = c → Le ((t, .bool c) :: E) E := fun c e => by subst e; exact Le.cons ht (Le.refl _)
  intro a w ha hi
  cases b with
  | true => exact hT rfl a w (ha.le (key _ rfl)) hi
  | false => exact hF rfl a w (ha.le (key _ rfl)) hi
theorem kh {p : Prop} [Decidable p] (t : Nat) (ht : E.get t = some (.bool (decide p))) (hT : p → eG C ops rest Q ((t, .bool true) :: E) L) (hF : ¬ p → eG C ops rest Q ((t, .bool false) :: E) L) : eG C ops rest Q E L :=
  yn t ht (fun e => hT (of_decide_eq_true e)) (fun e => hF (of_decide_eq_false e))
end Rg
theorem EE {T : lE} {E : Env} {q : Option Prop} {v : Value} {o : Op} (h : evalOp T E o = some (q, v)) : IY o v = true := by
  unfold evalOp at h
  split at h
  · rfl
  · rfl
  · rfl
  · rfl
  · rfl
  · rfl
  · rfl
  · split at h
    · split at h
      · split at h
        · cases h; rfl
        · cases h; rfl
        · cases h
      · cases h
    · cases h
  · split at h
    · split at h
      · split at h <;> first | (cases h; done) | (cases h; rfl) | (split at h <;> first | (cases h; done) | (cases h; rfl))
      · cases h
    · cases h
  · cases h
def rV (T : lE) (n : Nat) (all : Array Oper) : Nat → List Oper → Env → Option Prop → Option (Option Prop × List Oper × Env)
  | 0, l, E, p => some (p, l, E)
  | k + 1, l, E, p => (match mN T n ⟨[], E, .ops all l⟩ with
    | some (q, s) => (match s.pos with
      | .ops _ l' => (match q with
        | none => rV T n all k l' s.E p
        | some q => (match p with | none => rV T n all k l' s.E (some q) | some p => rV T n all k l' s.E (some (p ∧ q))))
      | _ => none)
    | none => none)
theorem uu {T : lE} (hT : jK C.P T = true) {l : List Oper} {all a2 : Array Oper} {l' : List Oper} {fr' : List Fr} {E' : Env} {q : Option Prop} (h : mN T C.n ⟨[], E, .ops all l⟩ = some (q, ⟨fr', E', .ops a2 l'⟩)) (hq : ta q) (g : eG C all l' Q E' L) : eG C all l Q E L := by
  cases l with
  | nil => cases h
  | cons o os =>
    simp only [mN] at h
    split at h
    · cases h
    · rename_i d hd
      split at h
      · cases h
      · rename_i hn
        have plain : ∀ {o : Oper} {v : Value}, o.dst = some d → o.guard = none → evalOp T E o.op = some (q, v) → eG C all os Q ((d, v) :: E) L → eG C all (o :: os) Q E L := by
          rintro ⟨dst, op, ty, pos, aft, gd⟩ v h1 h2 h3 h4
          simp only at h1 h2 h3
          subst h1; subst h2
          exact Rg.tQ (ru hT h3 hq) hn (EE h3) h4
        split at h
        · split at h
          · rename_i hg _ _ _ hv; cases h; exact plain hd hg hv g
          · cases h
        · rename_i j want hg
          split at h
          · rename_i hs
            split at h
            · rename_i hv
              cases h
              obtain ⟨dst, op, ty, pos, aft, gd⟩ := o
              simp only at hg hd
              subst hg; subst hd
              refine Rg.cL ?_ (plain (o := ⟨_, op, ty, pos, aft, none⟩) rfl rfl hv g)
              exact yX hs
            · cases h
          · rename_i hs
            cases h
            obtain ⟨dst, op, ty, pos, aft, gd⟩ := o
            simp only at hg hd
            subst hg; subst hd
            rcases x8 hs with ⟨b, h1, h2⟩ | ⟨oj, t, h1, h2, h3⟩
            · exact Rg.wP h1 h2 hn g
            · exact Rg.uk h1 h2 h3 hn g
          · cases h
theorem nI {T : lE} (hT : jK C.P T = true) {all : Array Oper} : ∀ (k : Nat) {l l' : List Oper} {E E' : Env} {p q : Option Prop}, rV T C.n all k l E p = some (q, l', E') → ta q → (ta p → eG C all l' Q E' L → eG C all l Q E L) ∧ ta p
  | 0, l, l', E, E', p, q, h, hq => by cases h; exact ⟨fun _ g => g, hq⟩
  | k + 1, l, l', E, E', p, q, h, hq => by
    simp only [rV] at h
    split at h
    · rename_i q1 s1 h1
      obtain ⟨fr1, E1, pos1⟩ := s1
      cases pos1 with
      | ops a2 l2 =>
        simp only at h
        cases q1 with
        | none =>
          obtain ⟨h2, h3⟩ := nI hT k h hq
          exact ⟨fun hp g => uu hT h1 trivial (h2 hp g), h3⟩
        | some r =>
          cases p with
          | none =>
            obtain ⟨h2, h3⟩ := nI hT k h hq
            exact ⟨fun _ g => uu hT h1 h3 (h2 h3 g), trivial⟩
          | some p' =>
            obtain ⟨h2, h3⟩ := nI hT k h hq
            exact ⟨fun _ g => uu hT h1 h3.2 (h2 h3 g), h3.1⟩
      | code _ => cases h
      | norm => cases h
      | exit _ => cases h
      | ret => cases h
    · cases h
theorem rR {T : lE} (hT : jK C.P T = true) (k : Nat) {all : Array Oper} {l l' : List Oper} {E' : Env} (h : rV T C.n all k l E none = some (none, l', E')) (g : eG C all l' Q E' L) : eG C all l Q E L := (nI hT k h trivial).1 trivial g
theorem P7 {T : lE} (hT : jK C.P T = true) (k : Nat) {all : Array Oper} {l l' : List Oper} {E' : Env} {p : Prop} (h : rV T C.n all k l E none = some (some p, l', E')) (hp : p) (g : eG C all l' Q E' L) : eG C all l Q E L := (nI hT k h hp).1 trivial g
end
end Go.Sl
namespace Go.Sl
def calm (o : Oper) : Oper := { o with op := .move (.const undef) }
def Cw (l : List Oper) : List Oper := l.dropLast ++ (match l.getLast? with | some o => [calm o] | none => [])
def I9 (l : List Oper) : Bool := match l.getLast? with
 | some o => (List.range (l.length - 1)).all (fun j => o.after.toList.any fun e => Region.binds .any e && Nat.beq e.on j) && noSelect o.op
 | none => false
def VY (l : List Oper) : Bool := EO (Cw l) && I9 l
def Env.del (d : Nat) : Env → Env
 | [] => []
 | (k, v) :: E => cond (Nat.beq k d) (Env.del d E) ((k, v) :: Env.del d E)
theorem Env.uR {d k : Nat} {u : Value} : ∀ {E : Env}, (E.del d).get k = some u → k ≠ d ∧ E.get k = some u
 | [], h => by cases h
 | (q, y) :: E, h => by
  rw [Env.ic]
  unfold Env.del at h
  cases hq : Nat.beq q d with
  | true =>
   rw [hq] at h
   obtain ⟨h1, h2⟩ := Env.uR h
   have : q = d := Nat.eq_of_beq_eq_true hq
   exact ⟨h1, by rw [if_neg (by omega)]; exact h2⟩
  | false =>
   rw [hq] at h
   simp only [cond_false] at h
   rw [Env.ic] at h
   have hqd : q ≠ d := fun e => by subst e; rw [Nat.beq_refl] at hq; cases hq
   by_cases hqk : q = k
   ·rw [if_pos hqk] at h ⊢; exact ⟨by omega, h⟩
   ·rw [if_neg hqk] at h ⊢; exact Env.uR h
def tj (C : Ctx) (l : List Oper) (Q : QT) : QT := fun e E L => match l.getLast? with
 | some o => (match o.dst with | some d => cy C l.toArray [o] Q (E.del d) L | none => cy C l.toArray [o] Q E L)
 | none => False
theorem LZ {l : List Oper} {o : Oper} (h : l.getLast? = some o) : l = l.dropLast ++ [o] ∧ Cw l = l.dropLast ++ [calm o] := by
 have hne : l ≠ [] := by intro e; subst e; cases h
 have e1 := List.dropLast_concat_getLast hne
 have e2 : l.getLast hne = o := by rw [List.getLast?_eq_some_getLast hne] at h; exact Option.some.inj h
 rw [e2] at e1
 exact ⟨e1.symm, by unfold Cw; rw [h]⟩
section
variable {P : Program} {w : World}
theorem pX {l0 : List Oper} {o : Oper} (tm : Array Value) : yielded (l0 ++ [calm o]).toArray tm = yielded (l0 ++ [o]).toArray tm := by
 funext j
 unfold yielded
 simp only [List.getElem?_toArray]
 rcases Nat.lt_or_ge j l0.length with h | h
 ·rw [List.getElem?_append_left h, List.getElem?_append_left h]
 ·rw [List.getElem?_append_right h, List.getElem?_append_right h]
  cases j - l0.length with
  | zero => rfl
  | succ k => simp
theorem oe {l0 : List Oper} {o : Oper} (listed : Array Bool) : Region.ready .any (l0 ++ [calm o]).toArray listed = Region.ready .any (l0 ++ [o]).toArray listed := by
 unfold Region.ready
 simp only [List.size_toArray, List.length_append, List.length_singleton]
 apply List.filter_congr
 intro i hi
 congr 1
 simp only [List.getElem?_toArray]
 rcases Nat.lt_or_ge i l0.length with h | h
 ·rw [List.getElem?_append_left h, List.getElem?_append_left h]
 ·rw [List.getElem?_append_right h, List.getElem?_append_right h]
  cases i - l0.length with
  | zero => rfl
  | succ k => simp
theorem oa {l0 : List Oper} {o : Oper} {K K' : Act → Prop} (hK : ∀ a, K a → K' a) : ∀ (l : List Oper) (a : Act), wpStill P (l0 ++ [o]).toArray w K l a → wpStill P (l0 ++ [calm o]).toArray w K' l a
 | [], a, h => hK a h
 | x :: l, a, h => by
  unfold wpStill at h ⊢
  rw [pX]
  split
  ·rename_i hw
   rw [if_pos hw] at h
   exact Oper.still_mono (fun a h => oa hK l a h) h
  ·rename_i hw
   rw [if_neg hw] at h
   exact oa hK l _ h
theorem lX {ops : Array Oper} {K : Act → Prop} : ∀ (l l' : List Oper) (a : Act), wpStill P ops w (fun a => wpStill P ops w K l' a) l a → wpStill P ops w K (l ++ l') a
 | [], l', a, h => h
 | x :: l, l', a, h => by
  rw [List.cons_append]
  unfold wpStill at h ⊢
  split
  ·rename_i hw
   rw [if_pos hw] at h
   exact Oper.still_mono (fun a h => lX l l' a h) h
  ·rename_i hw
   rw [if_neg hw] at h
   exact lX l l' _ h
theorem Ct {ops : Array Oper} {o : Oper} {K : Act → Prop} {a : Act} (h : K (a.put o.dst undef)) : wpStill P ops w K [calm o] a := by
 unfold wpStill
 have e : (calm o).dst = o.dst := rfl
 split
 ·unfold Oper.still
  have hr : (execOp a.eval (calm o)).run P w = .ok (.value undef) w := by simp [calm, execOp, Act.eval]
  rw [hr, Oper.stillUpon_value, e]
  exact h
 ·rw [e]; exact h
theorem GF {l0 : List Oper} {o : Oper} {Q : Exit → Act → World → Prop} {Q' : Act → Prop} (hlt : ∀ e ∈ o.after.toList, Region.binds .any e = true → e.on < l0.length) (hsm : ∀ k x, l0[k]? = some x → ∀ e ∈ x.after.toList, Region.binds .any e = true → e.on < k)
  (hwait : ∀ j, j < l0.length → ∃ e ∈ o.after.toList, Region.binds .any e = true ∧ e.on = j)
  (hK : ∀ a, Q' (a.put o.dst undef) → ∀ K : Act → World → Prop, (∀ a w, Q .normal a w → K a w) → if Region.wanted o (yielded (l0 ++ [o]).toArray a.tmps) then (o.wp P a w K Q ∨ (o.asks P a w ∧ LetsOut Q)) else K (a.put o.dst undef) w) :
  ∀ (fuel : Nat) (listed : Array Bool) (a : Act), listed.size = l0.length + 1 → listed.getD l0.length true = false → wpAnyS P .any (l0 ++ [calm o]).toArray w Q' fuel listed a → wpAny P .any (l0 ++ [o]).toArray Q fuel listed a w := by
 have hne : ∀ listed : Array Bool, listed.size = l0.length + 1 → listed.getD l0.length true = false → Region.ready .any (l0 ++ [o]).toArray listed ≠ [] := by
  intro listed hs hl h0
  have key : ∀ i, i < l0.length → listed.getD i true = true := by
   intro i
   induction i using Nat.strongRecOn with
   | _ i ih =>
    intro hi
    cases hd : listed.getD i true with
    | true => rfl
    | false =>
     exfalso
     have : i ∈ Region.ready .any (l0 ++ [o]).toArray listed := mem_ready.2 ⟨hd, l0[i], by simp [List.getElem?_append_left hi, hi], fun e he hb => by
      have hlt2 := hsm i _ (List.getElem?_eq_getElem hi) e (by simpa using he) hb
      have := ih e.on hlt2 (by omega)
      have hsz : e.on < listed.size := by omega
      simp [hsz] at this ⊢
      exact this⟩
     rw [h0] at this; cases this
  have : l0.length ∈ Region.ready .any (l0 ++ [o]).toArray listed := mem_ready.2 ⟨hl, o, by simp, fun e he hb => by
   have hlt2 := hlt e (by simpa using he) hb
   have := key e.on hlt2
   have hsz : e.on < listed.size := by omega
   simp [hsz] at this ⊢
   exact this⟩
  rw [h0] at this; cases this
 intro fuel
 induction fuel with
 | zero =>
  intro listed a hs hl h
  have := h.1
  rw [oe] at this
  exact absurd this (hne listed hs hl)
 | succ fuel ih =>
  intro listed a hs hl h
  refine ⟨fun h0 => absurd h0 (hne listed hs hl), fun i hi => ?_⟩
  have h1 := h.2 i (by rw [oe]; exact hi)
  obtain ⟨hun, x, hx, hall⟩ := mem_ready.1 hi
  have hx' : (l0 ++ [o])[i]? = some x := by simpa using hx
  have hile : i < l0.length + 1 := by
   have := (List.getElem?_eq_some_iff.1 hx').1
   simpa using this
  rcases Nat.lt_or_ge i l0.length with hi2 | hi2
  ·-- one of the first
   have hxc : (l0 ++ [calm o]).toArray[i]? = some x := by
    simp only [List.getElem?_toArray]
    rw [List.getElem?_append_left hi2] at hx' ⊢
    exact hx'
   have h2 : stOp P (l0 ++ [o]).toArray w i (wpAnyS P .any (l0 ++ [calm o]).toArray w Q' fuel (listed.setIfInBounds i true)) a := by
    unfold stOp at h1 ⊢
    rw [hxc] at h1
    rw [hx]
    simp only at h1 ⊢
    rw [pX] at h1
    exact h1
   refine wpOp_of_stOp (fun a' h3 => ih _ a' (by simp [hs]) ?_ h3) h2
   rw [getD_set_ne true (by omega)]
   exact hl
  ·-- the last one
   have hil : i = l0.length := by omega
   subst hil
   have hxo : x = o := by simpa using hx'.symm
   subst hxo
   have hxc : (l0 ++ [calm x]).toArray[l0.length]? = some (calm x) := by simp
   have hlisted : Region.ready .any (l0 ++ [x]).toArray (listed.setIfInBounds l0.length true) = [] := by
    apply List.eq_nil_iff_forall_not_mem.2
    intro j hj
    obtain ⟨g1, y, hy, _⟩ := mem_ready.1 hj
    have hy' : (l0 ++ [x])[j]? = some y := by simpa using hy
    have hjl : j < l0.length + 1 := by
     have := (List.getElem?_eq_some_iff.1 hy').1
     simpa using this
    rcases Nat.lt_or_ge j l0.length with hj2 | hj2
    ·obtain ⟨e, he, hb, hon⟩ := hwait j hj2
     have := hall e (by simpa using he) hb
     rw [hon] at this
     rw [getD_set_ne true (by omega)] at g1
     have hsz : j < listed.size := by omega
     simp [hsz] at this g1
     rw [this] at g1; cases g1
    ·have : j = l0.length := by omega
     subst this
     simp [hs] at g1
   have h3 : Q' (a.put x.dst undef) := by
    unfold stOp at h1
    rw [hxc] at h1
    simp only at h1
    have hfin : ∀ a', wpAnyS P .any (l0 ++ [calm x]).toArray w Q' fuel (listed.setIfInBounds l0.length true) a' → Q' a' := by
     intro a' h4
     have hr0 : Region.ready .any (l0 ++ [calm x]).toArray (listed.setIfInBounds l0.length true) = [] := by rw [oe]; exact hlisted
     cases fuel with
     | zero => exact h4.2
     | succ f => exact h4.1 hr0
    have hr : (execOp a.eval (calm x)).run P w = .ok (.value undef) w := by simp [calm, execOp, Act.eval]
    split at h1
    ·unfold Oper.still at h1
     rw [hr, Oper.stillUpon_value] at h1
     exact hfin _ h1
    ·exact hfin _ h1
   have h4 := hK a h3 (wpAny P .any (l0 ++ [x]).toArray Q fuel (listed.setIfInBounds l0.length true)) (fun a' w' hq => wpAny_done hlisted hq fuel)
   unfold wpOp
   simp only [hx]
   split
   ·rename_i hw; rw [if_pos hw] at h4; exact h4
   ·rename_i hw; rw [if_neg hw] at h4; exact h4
end
section
variable {C : Ctx} {Q : QT} {E : Env} {L : List ab}
theorem ft.Tp {E' : Env} {a a0 : Act} {d : Nat} {v : Value} (h : ft C E' a0) (e : a.put (some d) v = a0.put (some d) v) : ft C (E'.del d) a := by
 have e1 : a.defers = a0.defers := (congrArg (fun z : Act => z.defers) e : (a.put (some d) v).defers = (a0.put (some d) v).defers)
 have e2 : a.tmps.setIfInBounds d v = a0.tmps.setIfInBounds d v := (congrArg (fun z : Act => z.tmps) e : (a.put (some d) v).tmps = (a0.put (some d) v).tmps)
 refine ⟨e1.trans h.defers, ?_, fun k u hk => ?_⟩
 ·have := congrArg Array.size e2
  simp only [Array.size_setIfInBounds] at this
  exact this.trans h.size
 ·obtain ⟨h1, h2⟩ := Env.uR hk
  have h3 := h.get k u h2
  have h4 := congrArg (fun z : Array Value => z[k]?) e2
  rw [Array.getElem?_setIfInBounds_ne (fun e => h1 e.symm), Array.getElem?_setIfInBounds_ne (fun e => h1 e.symm)] at h4
  rw [h4]; exact h3
theorem mW {P : Program} {w : World} {ops : Array Oper} {K K' : Act → Prop} (hK : ∀ a, K a → K' a) : ∀ (l : List Oper) (a : Act), wpStill P ops w K l a → wpStill P ops w K' l a
 | [], a, h => hK a h
 | x :: l, a, h => by
  unfold wpStill at h ⊢
  split
  ·rename_i hw
   rw [if_pos hw] at h
   exact Oper.still_mono (fun a h => mW hK l a h) h
  ·rename_i hw
   rw [if_neg hw] at h
   exact mW hK l _ h
theorem XN {id : Nat} {l : List Oper} (hm : C.P.follows .mixedOrders = true) (hB : VY l = true) (h : eG C l.toArray l.dropLast (tj C l Q) E L) : Wp C (.region id l.toArray true) Q E L := by
 intro a w ha hi
 unfold VY at hB
 simp only [Bool.and_eq_true] at hB
 obtain ⟨hB1, hB2⟩ := hB
 unfold I9 at hB2
 cases hl : l.getLast? with
 | none => rw [hl] at hB2; cases hB2
 | some o =>
  rw [hl] at hB2
  simp only [Bool.and_eq_true] at hB2
  obtain ⟨e1, e2⟩ := LZ hl
  rw [e2] at hB1
  have hB0 := hB1
  generalize hl0 : l.dropLast = l0 at *
  have hlen : l.length - 1 = l0.length := by rw [e1]; simp
  rw [hlen] at hB2
  unfold EO at hB1
  simp only [Bool.and_eq_true] at hB1
  refine wp_region_any hm ?_
  have hh := h a { w with drawn := w.drawn + 1 } ha hi.drew
  have hs1 : wpStill C.P (l0 ++ [calm o]).toArray { w with drawn := w.drawn + 1 } (fun a => Qh C (tj C l Q) .normal a { w with drawn := w.drawn + 1 }) l0 a := by
   have : wpStill C.P (l0 ++ [o]).toArray { w with drawn := w.drawn + 1 } (fun a => Qh C (tj C l Q) .normal a { w with drawn := w.drawn + 1 }) l0 a := by rw [← e1]; exact hh
   exact oa (fun _ h => h) l0 a this
  have hs2 : wpStill C.P (l0 ++ [calm o]).toArray { w with drawn := w.drawn + 1 } (fun a => ∃ a0, a = a0.put o.dst undef ∧ Qh C (tj C l Q) .normal a0 { w with drawn := w.drawn + 1 }) (l0 ++ [calm o]) a :=
   lX l0 [calm o] a (mW (fun a h => Ct ⟨a, rfl, h⟩) l0 a hs1)
  have hlx := z8 hB0
  simp only [Region.lexB, Bool.and_eq_true] at hlx
  have hS := wpAnyS_lex (md := .any) (ops := (l0 ++ [calm o]).toArray) hlx.1 (l0 ++ [calm o]) 0 (Array.replicate (l0 ++ [calm o]).toArray.size false) a (by simp) (by simpa using hlx.2) hs2
  have hA := GF (l0 := l0) (o := o) (w := { w with drawn := w.drawn + 1 }) (Q := Qh C Q) ?_ ?_ ?_ ?_ (l0 ++ [calm o]).length (Array.replicate (l0 ++ [calm o]).toArray.size false) a (by simp) (by simp) hS
  ·rw [← e1] at hA
   have hsz : (l0 ++ [calm o]).length = l.toArray.size := by rw [e1]; simp
   rw [hsz] at hA
   have hsz2 : (l0 ++ [calm o]).toArray.size = l.toArray.size := by simpa using hsz
   rw [hsz2] at hA
   exact hA
  ·intro e he hb
   have := (oz hB1.2 (k := l0.length) (o := calm o) (by simp)).1 e he hb
   omega
  ·intro k x hx e he hb
   have hk : k < l0.length := (List.getElem?_eq_some_iff.1 hx).1
   have := (oz hB1.2 (k := k) (o := x) (by rw [List.getElem?_append_left hk]; exact hx)).1 e he hb
   omega
  ·intro j hj
   have := List.all_eq_true.1 hB2.1 j (List.mem_range.2 hj)
   obtain ⟨e, he, h2⟩ := List.any_eq_true.1 this
   simp only [Bool.and_eq_true] at h2
   exact ⟨e, he, h2.1, Nat.eq_of_beq_eq_true h2.2⟩
  ·rintro a1 ⟨a0, hp, E1, L1, g1, g2, g3⟩ K hK
   have fin : wpList C.P l.toArray (Qh C Q) [o] a1 { w with drawn := w.drawn + 1 } → if Region.wanted o (yielded (l0 ++ [o]).toArray a1.tmps) then (o.wp C.P a1 { w with drawn := w.drawn + 1 } K (Qh C Q) ∨ (o.asks C.P a1 { w with drawn := w.drawn + 1 } ∧ LetsOut (Qh C Q))) else K (a1.put o.dst undef) { w with drawn := w.drawn + 1 } := by
    intro h5
    rw [← e1]
    unfold wpList at h5
    split
    ·rename_i hw
     rw [if_pos hw] at h5
     exact h5.imp (Oper.wp_mono (fun a w h => hK a w h)) (fun h => h)
    ·rename_i hw
     rw [if_neg hw] at h5
     exact hK _ _ h5
   unfold tj at g3
   rw [hl] at g3
   simp only at g3
   cases hd : o.dst with
   | none =>
    rw [hd] at g3 hp
    have : a1 = a0 := hp
    subst this
    have := fin (g3 a1 _ g1 g2)
    rw [hd] at this
    exact this
   | some d =>
    rw [hd] at g3 hp
    have := fin (g3 a1 _ (g1.Tp hp) g2)
    rw [hd] at this
    exact this
end
end Go.Sl
namespace Go.Sl
section
variable {C : Ctx} {Q : QT} {E : Env} {L : List ab} {ops : Array Oper} {rest : List Oper} {d : Nat} {ty : TypeId} {pos : String} {aft : Array Edge}
theorem qK (l : List Int) (h : ∀ x ∈ l, 0 ≤ x ∧ x < 256) : (strOfNums l).data.toList.map (fun b => Value.int .u8 b.toNat) = l.map (Value.int .u8) := by
  unfold strOfNums
  simp only [List.map_map]
  refine List.map_congr_left fun x hx => ?_
  have := h x hx
  simp only [Function.comp_apply, UInt8.toNat_ofNat', Value.int.injEq, true_and]
  rw [Nat.mod_eq_of_lt (by omega)]
  omega
theorem JW {l m : List Int} (hl : ∀ x ∈ l, 0 ≤ x ∧ x < 256) (hm : ∀ x ∈ m, 0 ≤ x ∧ x < 256) (h : strOfNums l = strOfNums m) : l = m := by
  have e := qK l hl
  rw [h, qK m hm] at e
  exact (List.map_inj_right (fun x y e => by cases e; rfl)).1 e.symm
theorem kc (l : List Int) : (strOfNums l).size = l.length := by simp [strOfNums, ByteArray.size]
theorem D9 {s x : Operand} {t tS e sz bE n m cap : Nat} {p : Option Addr} {vs ws zs : List Value} {u : ByteArray} {F : List ab}
    (ht : sliceB C.P t = some (e, sz, bE)) (hS : C.P.underlying tS = some .string) (hz : cm C.P e = some zs) (hs1 : sz = 1) (hby : Nat.ble 1 bE = true)
    (hs : an E s = some (.slice p n cap)) (hx : an E x = some (.string u)) (hu : u.data.toList.map (fun b => Value.int .u8 b.toNat) = ws) (hum : u.size = m)
    (hL : fR L (Sl p n cap e sz vs) F) (hb : (n + m) * bE ≤ 140737488355328) :
    jM C (.call ⟨.builtin .append, [s, x].toArray, #[t, tS]⟩) ty E L (fun v L' => ∃ p' cap', v = .slice p' (n + m) cap' ∧ L' = Sl p' (n + m) cap' e sz (vs ++ ws) :: F) := by
  intro d pos aft g a w K Qx ha hi hK
  obtain ⟨ht1, i, hi2, rfl, rfl⟩ := iH ht
  obtain ⟨i', z, hz1, hz2, hz3, hz4⟩ := jv hz
  rw [hi2] at hz1
  cases hz1
  have hby := Nat.le_of_ble_eq_true hby
  have hnm : n + m ≤ (n + m) * i.bytes := Nat.le_mul_of_pos_right _ hby
  have hsmall : n + m ≤ 140737488355328 := by omega
  have hwl : ws.length = m * i.size := by rw [← hu, hs1, Nat.mul_one, ← hum, List.length_map, Array.length_toList]; rfl
  obtain ⟨consts, hrun⟩ := ja (C := C) (ty := ty) (pos := pos) (aft := aft) (b := .append) (xs := [s, x]) (tys := #[t, tS]) (vs := [.slice p n cap, .string u]) (a := a) (by simp [ha.eval hs, ha.eval hx]) d g w
  suffices h : ∃ p' cap' w', (Builtin.append_ #[t, tS] ty #[.slice p n cap, .string u]).run C.P w = .ok (.slice p' (n + m) cap') w' ∧ Inv C.w0 (Sl p' (n + m) cap' e i.size (vs ++ ws) :: F) w' by
    obtain ⟨p', cap', w', hr, hi'⟩ := h
    unfold Oper.wp
    rw [hrun]
    simp only [builtin, Sem.run_bind, hr, Result.andThen_ok, Sem.run_pure]
    exact hK _ _ _ ⟨p', cap', rfl, rfl⟩ hi'
  have hfirst : ∀ w1 : World, (Builtin.firstCells i.size m (.string u)).run C.P w1 = .ok ws.toArray w1 := by
    intro w1
    have e0 : u.extract 0 m = u := by
      rw [← hum]
      exact ByteArray.extract_zero_size
    simp only [Builtin.firstCells, e0, Sem.run_pure]
    congr 1
    apply Array.ext'
    simp [← hu]
  have hall : ∀ y ∈ ws, y.oneCell' = true := fun y hy => by
    rw [← hu] at hy
    obtain ⟨b, _, rfl⟩ := List.mem_map.1 hy
    rfl
  have hgrow : ∀ (vs0 : List Value), vs0 = vs → n * i.size = vs.length → cap < n + m →
      (∀ w1 : World, (∀ q, w1.cell? q = w.cell? q) → (Builtin.firstCells i.size n (.slice p n cap)).run C.P w1 = .ok vs.toArray w1) →
      Inv C.w0 F w →
      ∃ p' cap' w', (Builtin.append_ #[t, tS] ty #[.slice p n cap, .string u]).run C.P w = .ok (.slice p' (n + m) cap') w' ∧ Inv C.w0 (Sl p' (n + m) cap' e i.size (vs ++ ws) :: F) w' := by
    intro vs0 _ hvl hlt hold hiF
    have hfit : Builtin.nextslicecap (n + m) cap * i.bytes ≤ 281474976710656 := growslice_fits hlt hb
    have h63 : ¬ (9223372036854775807 < ((n : Int) + (m : Int))) := by omega
    have h48 : ¬ (281474976710656 < Builtin.nextslicecap (n + m) cap * i.bytes) := by omega
    have hng : ¬ (n + m ≤ cap) := by omega
    refine ⟨some ⟨w.heap.size, 0, none⟩, grownCap w (n + m) cap e, w.drew.alloc (.cells (vs ++ ws ++ (Builtin.zeroCells z.cells (grownCap w (n + m) cap e - (n + m))).toList).toArray e), ?_, ?_⟩
    · have e1 := hold w.drew (fun q => by simp)
      have e2 := hfirst w.drew
      have harr : ∀ Z : Array Value, (vs ++ ws ++ Z.toList).toArray = vs.toArray ++ ws.toArray ++ Z := fun Z => by apply Array.ext'; simp
      rw [harr]
      simp [Builtin.append_, run_underlying ht1, run_underlying hS, sizeOf, typeInfo, zeroValue, hi2, hz2, Builtin.lenOf, hum, hng, h63, h48, Question.forced, e1, e2, newRow, grownCap]
      congr 1
      congr 1
      apply Array.ext'
      simp
    · have hge := grownCap_ge w (n + m) cap e
      refine Inv.imp ?_ (hiF.drew.alloc e (vs ++ ws ++ (Builtin.zeroCells z.cells (grownCap w (n + m) cap e - (n + m))).toList))
      intro h hc
      refine .inr ⟨_, 0, [], (Builtin.zeroCells z.cells (grownCap w (n + m) cap e - (n + m))).toList, rfl, by simpa using hc, rfl, ?_, ?_, hge⟩
      · simp [← hvl, hwl, Nat.add_mul]
      · have : z.cells.size = i.size := by rw [hz3, hz4]; simp
        simp [size_zeroCells, this]
  obtain ⟨zz, hzz, hi1⟩ := (hi.perm hL.perm).vn (Sl.open_ C.w0)
  cases zz with
  | none =>
    obtain ⟨rfl, rfl, rfl, rfl⟩ := hzz
    by_cases hm0 : m = 0
    · subst hm0
      simp at hwl
      subst hwl
      refine ⟨none, 0, w, ?_, (hi1.DI e i.size)⟩
      have e1 := hfirst w
      simp [Builtin.append_, run_underlying ht1, run_underlying hS, sizeOf, typeInfo, hi2, Builtin.lenOf, hum, e1]
    · exact hgrow [] rfl (by simp) (by omega) (fun w1 _ => by simp [Builtin.firstCells]) hi1
  | some zz =>
    obtain ⟨b, o, pre, post⟩ := zz
    obtain ⟨rfl, e1, e2, e3, e4⟩ := hzz
    by_cases hroom : n + m ≤ cap
    · have hfit : o + n * i.size + ws.length ≤ (pre ++ vs ++ post).length := by
        have : (n + m - n) * i.size ≤ (cap - n) * i.size := Nat.mul_le_mul_right _ (by omega)
        rw [show n + m - n = m by omega] at this
        simp only [List.length_append, e1, e2, hwl]
        omega
      obtain ⟨w', hr, hi'⟩ := iE (C := C) ws (o + n * i.size) 0 _ _ w hall (by simpa using hfit) hi1
      refine ⟨some ⟨b, o, none⟩, cap, w', ?_, ?_⟩
      · have hf := hfirst w
        simp [Builtin.append_, run_underlying ht1, run_underlying hS, sizeOf, typeInfo, hi2, Builtin.lenOf, hum, hroom, hf, Addr.fa, hr]
      · refine Inv.cls (B := [ai b e (pre ++ (vs ++ ws) ++ post.drop ws.length)]) (fun h hc => Sl.mk hc e1 (by simp [e2, hwl, Nat.add_mul]) ?_ hroom) ?_
        · simp only [List.length_drop, hwl]
          have : (cap - (n + m)) * i.size = (cap - n) * i.size - m * i.size := by rw [← Nat.sub_mul]; congr 1; omega
          omega
        · have e5 : (pre ++ vs ++ post).take (o + n * i.size + 0) = pre ++ vs := by
            rw [Nat.add_zero]
            exact List.take_left' (by simp [e1, e2])
          have e6 : (pre ++ vs ++ post).drop (o + n * i.size + 0 + ws.length) = post.drop ws.length := by
            rw [Nat.add_zero, show o + n * i.size + ws.length = (pre ++ vs).length + ws.length by simp [e1, e2]]
            rw [← List.drop_drop, List.drop_left]
          rw [e5, e6] at hi'
          simpa [List.append_assoc] using hi'
    · refine hgrow vs rfl e2.symm (by omega) (fun w1 hw1 => ?_) hi1.tail
      refine run_firstCells_some (P := C.P) w1 i.size n _ n cap vs e2 (fun j v hj => ?_)
      have hlt := (List.getElem?_eq_some_iff.1 hj).1
      rw [hw1, Addr.fa, Inv.ie hi1]
      rw [List.append_assoc, List.getElem?_append_right (by omega), show o + j - pre.length = j by omega, List.getElem?_append_left hlt]
      exact hj
theorem sK {l m : List Int} (hl : ∀ x ∈ l, 0 ≤ x ∧ x < 256) (hm : ∀ x ∈ m, 0 ≤ x ∧ x < 256) (h : l ≠ m) : ((strOfNums l).toList == (strOfNums m).toList) = false := by
  refine beq_eq_false_iff_ne.2 fun e => h (JW hl hm ?_)
  exact ByteArray.ext (Array.ext' (by rw [← ByteArray.toList_eq, ← ByteArray.toList_eq, e]))
end
end Go.Sl
namespace Go.Sl
section
variable {C : Ctx} {E0 : Env} {Q : QT} {L : List ab} {l : List Oper} {ts : List cX} {i : Nat} {c : gg} {op : Op} {os : List Oper} {ps : List dI} {f : Yv → Value} {K : gg → Prop} {A0 : List ab} {p : dI} {d : Option Nat} {ty : TypeId} {pos : String} {aft : Array Edge} {o : Oper}
theorem nV (h : ∀ y, (∀ j ∈ p.fE, cI c i j y) → ∀ L, bB C op ty (j6 l E0 p i c y) L (f y) L) (r : gu C l E0 ts A0 (i + 1) (c.put f (fun _ => True)) os ps K)
    (hc : gC ts i = [] := by rfl) (hr : ej ts i = [] := by rfl) (hp : gb ts i = [] := by rfl) (hf : ∀ y v, f (dG y i v) = f y := by intros; rfl) (hl : Loc i p f := by intro y y2 h; rfl) : gu C l E0 ts A0 i c (⟨d, op, ty, pos, aft, none⟩ :: os) (p :: ps) K :=
  ei _ (fun y => rfl) hc hr hp (fun y hA L => dE (h y hA L) ⟨rfl, rfl⟩) hf hl r
theorem nR (h : ∀ y A, (∀ j ∈ p.fE, cI c i j y) → bB C op ty (j6 l E0 p i c y) (dZ (ej ts i) y ++ A) (f y) (dZ (ej ts i) y ++ A)) (r : gu C l E0 ts A0 (i + 1) (c.put f (fun _ => True)) os ps K)
    (hc : gC ts i = [] := by rfl) (hp : gb ts i = [] := by rfl) (hf : ∀ y v, f (dG y i v) = f y := by intros; rfl) (hl : Loc i p f := by intro y y2 h; rfl) : gu C l E0 ts A0 i c (⟨d, op, ty, pos, aft, none⟩ :: os) (p :: ps) K :=
  kM _ _ (fun y => rfl) hc (fun y => rfl) hp (fun y A hA => dE (h y A hA) ⟨rfl, rfl⟩) hf hl r
theorem nE (h : ∀ y A, (∀ j ∈ p.fE, cI c i j y) → Step C l.toArray o (j6 l E0 p i c y) (dZ (gC ts i) y ++ (dZ (ej ts i) y ++ A)) (fun v' L' => v' = f y ∧ L'.Perm (dZ (gb ts i) y ++ (dZ (ej ts i) y ++ A)))) (r : gu C l E0 ts A0 (i + 1) (c.put f (fun _ => True)) os ps K)
    (hf : ∀ y v, f (dG y i v) = f y := by intros; rfl) (hM : ∀ y v, dZ (gb ts i) (dG y i v) = dZ (gb ts i) y := by intros; rfl) (hl : Loc i p f := by intro y y2 h; rfl) : gu C l E0 ts A0 i c (o :: os) (p :: ps) K :=
  Lr _ _ _ _ (fun y => rfl) (fun y => rfl) (fun y => rfl) (fun y => rfl) h hf hM hl r
end
def Xl (m : Nat) : List Nat := (List.range 96).filter fun k => (m / 2 ^ k) % 2 == 1
end Go.Sl
namespace Go.Sl
theorem ln {E : Env} : Le [] E := .nil _
theorem jy {E E2 : Env} {d0 : Nat} {v0 : Value} (l : Le E2 E) (h0 : E.get d0 = some v0 := by rfl) : Le ((d0, v0) :: E2) E := .cons h0 l
theorem jg {E E2 : Env} {d0 : Nat} {v0 : Value} {d1 : Nat} {v1 : Value} (l : Le E2 E) (h0 : E.get d0 = some v0 := by rfl) (h1 : E.get d1 = some v1 := by rfl) : Le ((d0, v0) :: (d1, v1) :: E2) E := .cons h0 (.cons h1 l)
theorem fz {E E2 : Env} {d0 : Nat} {v0 : Value} {d1 : Nat} {v1 : Value} {d2 : Nat} {v2 : Value} (l : Le E2 E) (h0 : E.get d0 = some v0 := by rfl) (h1 : E.get d1 = some v1 := by rfl) (h2 : E.get d2 = some v2 := by rfl) : Le ((d0, v0) :: (d1, v1) :: (d2, v2) :: E2) E := .cons h0 (.cons h1 (.cons h2 l))
theorem eQ {E E2 : Env} {d0 : Nat} {v0 : Value} {d1 : Nat} {v1 : Value} {d2 : Nat} {v2 : Value} {d3 : Nat} {v3 : Value} (l : Le E2 E) (h0 : E.get d0 = some v0 := by rfl) (h1 : E.get d1 = some v1 := by rfl) (h2 : E.get d2 = some v2 := by rfl) (h3 : E.get d3 = some v3 := by rfl) : Le ((d0, v0) :: (d1, v1) :: (d2, v2) :: (d3, v3) :: E2) E := .cons h0 (.cons h1 (.cons h2 (.cons h3 l)))
theorem bN {E E2 : Env} {d0 : Nat} {v0 : Value} {d1 : Nat} {v1 : Value} {d2 : Nat} {v2 : Value} {d3 : Nat} {v3 : Value} {d4 : Nat} {v4 : Value} (l : Le E2 E) (h0 : E.get d0 = some v0 := by rfl) (h1 : E.get d1 = some v1 := by rfl) (h2 : E.get d2 = some v2 := by rfl) (h3 : E.get d3 = some v3 := by rfl) (h4 : E.get d4 = some v4 := by rfl) : Le ((d0, v0) :: (d1, v1) :: (d2, v2) :: (d3, v3) :: (d4, v4) :: E2) E := .cons h0 (.cons h1 (.cons h2 (.cons h3 (.cons h4 l))))
theorem aq {A0 : ab} {M P F : List ab} (h : eE M P F) : eE (A0 :: M) (A0 :: P) F := .cons dg h
theorem aT {A0 A1 : ab} {M P F : List ab} (h : eE M P F) : eE (A0 :: A1 :: M) (A0 :: A1 :: P) F := .cons dg (.cons dg h)
theorem fQ {A0 A1 A2 : ab} {M P F : List ab} (h : eE M P F) : eE (A0 :: A1 :: A2 :: M) (A0 :: A1 :: A2 :: P) F := .cons dg (.cons dg (.cons dg h))
theorem mH {A0 A1 A2 A3 : ab} {M P F : List ab} (h : eE M P F) : eE (A0 :: A1 :: A2 :: A3 :: M) (A0 :: A1 :: A2 :: A3 :: P) F := .cons dg (.cons dg (.cons dg (.cons dg h)))
theorem kp {A0 A1 A2 A3 A4 : ab} {M P F : List ab} (h : eE M P F) : eE (A0 :: A1 :: A2 :: A3 :: A4 :: M) (A0 :: A1 :: A2 :: A3 :: A4 :: P) F := .cons dg (.cons dg (.cons dg (.cons dg (.cons dg h))))
theorem wI {n : Int} (h1 : -9223372036854775808 ≤ n := by omega) (h2 : n ≤ 9223372036854775807 := by omega) : IntKind.i64.wrap n = n := eX h1 h2
section
variable {C : Ctx} {Q : QT} {E E0 : Env} {L : List ab} {ty : TypeId}
theorem xI {α : Type} {c : Ec α} {x ix : Operand} {t bE n cap : Nat} {p : Option Addr} {k : IntKind} {i : Int} {l : List α} (ht : sliceB C.P t = some (c.T, c.sz, bE)) (H : Has C.w0 L c p n l) (h : an E x = some (.slice p n cap) := by rfl) (hi : an E ix = some (.int k i) := by rfl) (h0 : 0 ≤ i := by omega) (hlt : i < n := by omega) :
    bB C (.indexAddr t x ix) ty E L (.pointer (some ⟨ia p, ox p + i.toNat * c.sz, none⟩)) L := qY ht h hi H h0 hlt
theorem xL {α : Type} {c : Ec α} {v : Value} {x : Operand} {t n : Nat} {p : Option Addr} {i : Int} {l : List α} (hs : bP C.P t = true) (H : Has C.w0 L c p n l) (hx : an E x = some (.pointer (some ⟨ia p, ox p + i.toNat * c.sz, none⟩)) := by rfl) (h0 : 0 ≤ i := by omega) (hlt : i < n := by omega) (hf : Nat.blt 0 c.sz = true := by rfl) (hv : (c.e (c.g l i))[0]? = some v := by rfl) : bB C (.load t x) ty E L v L := yT hs hx H h0 hlt hf hv
variable {l : List Oper} {ts : List cX} {i : Nat} {c : gg} {op : Op} {os : List Oper} {ps : List dI} {f : Yv → Value} {K : gg → Prop} {A0 : List ab} {p : dI} {d : Option Nat} {pos : String} {aft : Array Edge} {o : Oper} {x : Operand}
theorem nM (r : gu C l E0 ts A0 (i + 1) (c.put f (fun _ => True)) os ps K) (h : ∀ y, an (j6 l E0 p i c y) x = some (f y) := by intro y; rfl)
    (hc : gC ts i = [] := by rfl) (hr : ej ts i = [] := by rfl) (hp : gb ts i = [] := by rfl) (hf : ∀ y v, f (dG y i v) = f y := by intros; rfl) (hl : Loc i p f := by intro y y2 h; rfl) : gu C l E0 ts A0 i c (⟨d, .move x, ty, pos, aft, none⟩ :: os) (p :: ps) K :=
  nV (fun y hA L => jm (h y)) r hc hr hp hf hl
theorem nA (r : gu C l E0 ts A0 (i + 1) (c.put f (fun _ => True)) os ps K) (h : ∀ y, an (j6 l E0 p i c y) x = some (f y) := by intro y; rfl)
    (hc : gC ts i = [] := by rfl) (hr : ej ts i = [] := by rfl) (hp : gb ts i = [] := by rfl) (hf : ∀ y v, f (dG y i v) = f y := by intros; rfl) (hl : Loc i p f := by intro y y2 h; rfl) : gu C l E0 ts A0 i c (⟨d, .assign x, ty, pos, aft, none⟩ :: os) (p :: ps) K :=
  nV (fun y hA L => iO (h y)) r hc hr hp hf hl
theorem nN {q : Yv → Addr} (r : gu C l E0 ts A0 (i + 1) (c.put (fun y => .pointer (some (q y))) (fun _ => True)) os ps K) (h : ∀ y, an (j6 l E0 p i c y) x = some (.pointer (some (q y))) := by intro y; rfl)
    (hc : gC ts i = [] := by rfl) (hr : ej ts i = [] := by rfl) (hp : gb ts i = [] := by rfl) (hf : ∀ y v, Value.pointer (some (q (dG y i v))) = .pointer (some (q y)) := by intros; rfl) (hl : Loc i p (fun y => Value.pointer (some (q y))) := by intro y y2 h; rfl) : gu C l E0 ts A0 i c (⟨d, .nilCheck x, ty, pos, aft, none⟩ :: os) (p :: ps) K :=
  nV (fun y hA L => BV (h y)) r hc hr hp hf hl
theorem nG {s fd o b q : Nat} (ht : a7 C.P s fd = some o) (r : gu C l E0 ts A0 (i + 1) (c.put (fun y => .pointer (some ⟨b, q + o, none⟩)) (fun _ => True)) os ps K) (h : ∀ y, an (j6 l E0 p i c y) x = some (.pointer (some ⟨b, q, none⟩)) := by intro y; rfl)
    (hc : gC ts i = [] := by rfl) (hr : ej ts i = [] := by rfl) (hp : gb ts i = [] := by rfl) : gu C l E0 ts A0 i c (⟨d, .fieldAddr s x fd, ty, pos, aft, none⟩ :: os) (p :: ps) K :=
  nV (fun y hA L => bp ht (h y)) r hc hr hp (fun _ _ => rfl) (fun _ _ _ => rfl)
theorem wN {id : Nat} (ps : List dI) (ts : List cX) (A : List ab) (hm : C.P.follows .mixedOrders = true) (how : gu C l E0 ts A 0 ⟨[], []⟩ l ps (fun c => ∀ y, (∀ j, j < l.length → cI c l.length j y) → Q .normal (r6 l l.length c y l.length E0) (dZ (uA ts) y ++ A)))
    (hB : wO C l ps ts = true := by kernel_rfl) (hps : ps.length = l.length := by rfl) (h0 : ∀ y, L.Perm (dZ (oU ts) y ++ A) := by exact fun _ => .refl _) (hl : rY ps ts := by repeat first | exact eV | refine aP _ ?_ | refine cK _ rfl (by intro y y2 h; rfl) ?_) (hX : ∀ ch E L, C.X ch L → Q (.panic ch) E L := by exact fun _ _ _ h => h) : Wp C (.region id l.toArray true) Q E0 L :=
  jf ps ts A hm hB hps h0 hl how hX
end
section
variable {C : Ctx} {Q : QT} {E : Env} {L L' : List ab} {ops : Array Oper} {rest : List Oper} {d : Nat} {ty : TypeId} {pos : String} {aft : Array Edge} {op : Op} {v : Value}
theorem oV (h : bB C op ty E L v L') (k : cy C ops rest Q ((d, v) :: E) L') (hd : Nat.blt d C.n = true := by rfl) : cy C ops (⟨some d, op, ty, pos, aft, none⟩ :: rest) Q E L := tQ h hd k
theorem oR (h : bB C op ty E L v L) (k : eG C ops rest Q ((d, v) :: E) L) (hd : Nat.blt d C.n = true := by rfl) (hk : IY op v = true := by rfl) : eG C ops (⟨some d, op, ty, pos, aft, none⟩ :: rest) Q E L := Rg.tQ h hd hk k
end
abbrev pz (m : Nat) (d s : List Nat) : dI := ⟨Xl m, d, s, 0, 0⟩
theorem ZN : True := by
  have := @Ic
  have := @nV
  have := @nR
  have := @nE
  have := @ln
  have := @jy
  have := @jg
  have := @fz
  have := @eQ
  have := @bN
  have := @aq
  have := @aT
  have := @fQ
  have := @mH
  have := @kp
  have := @wI
  have := @xI
  have := @xL
  have := @nM
  have := @nA
  have := @nN
  have := @nG
  have := @wN
  have := @oV
  have := @oR
  trivial
end Go.Sl
namespace Go.Sl
section
variable {α β : Type}
def zc (c : Ec α) (p : Option Addr) (n : Nat) (l : List α) : ab := fun w0 h => l.length = n ∧ (n = 0 ∨ ∃ b o cs T fr, p = some ⟨b, o, none⟩ ∧ h b = some (.cells cs T fr) ∧ ∀ (i : Nat) v, (l.flatMap c.e)[i]? = some v → cs[o + i]? = some v)
theorem zc.rd {c : Ec α} {p : Option Addr} {n : Nat} {l : List α} {w0 : World} {h : Hp} (hh : zc c p n l w0 h) : aE c p n l w0 h := by
  obtain ⟨h1, h2⟩ := hh
  refine ⟨h1, by rw [fi, h1], ?_⟩
  rcases h2 with h2 | ⟨b, o, cs, T, fr, e1, e2, e3⟩
  · exact .inl h2
  · refine .inr ⟨b, o, e1, fun i v hv => ?_⟩
    unfold k5
    rw [e2]
    simpa using e3 i v hv
theorem zc.mono {c : Ec α} {p : Option Addr} {n : Nat} {l : List α} {w0 : World} {h h' : Hp} (hh : zc c p n l w0 h) (hl : Hp.le h h') : zc c p n l w0 h' := by
  obtain ⟨h1, h2⟩ := hh
  refine ⟨h1, ?_⟩
  rcases h2 with h2 | ⟨b, o, cs, T, fr, e1, e2, e3⟩
  · exact .inl h2
  · exact .inr ⟨b, o, cs, T, fr, e1, hl _ _ e2, e3⟩
theorem Row.NT {c : Ec α} {p : Option Addr} {n cap : Nat} {l : List α} {w0 : World} {h : Hp} (hr : Row c p n cap l w0 h) : zc c p n l w0 h := by
  obtain ⟨h1, h2⟩ := hr
  refine ⟨h1, ?_⟩
  rcases h2 with ⟨rfl, rfl, rfl, _⟩ | ⟨b, o, pre, post, rfl, ⟨_, e1⟩, e2, e3, _, _⟩
  · exact .inl rfl
  · refine .inr ⟨b, o, _, _, _, rfl, e1, fun i v hv => ?_⟩
    have hlt := (List.getElem?_eq_some_iff.1 hv).1
    rw [List.getElem?_toArray, List.append_assoc, List.getElem?_append_right (by omega), show o + i - pre.length = i by omega, List.getElem?_append_left hlt]
    exact hv
def FC (c : Ec α) (f : β → Option Addr × List α) (l : List β) : ab := fun w0 h => ∀ x ∈ l, zc c (f x).1 (f x).2.length (f x).2 w0 h
theorem Ly (c : Ec α) (f : β → Option Addr × List α) (w0 : World) (h : Hp) : FC c f [] w0 h := fun x hx => by cases hx
theorem Mj {c : Ec α} {f : β → Option Addr × List α} {l : List β} {x : β} {p : Option Addr} {n cap : Nat} {d : List α} {w0 : World} {h : Hp} (hx : f x = (p, d)) (hh : bU w0 [FC c f l, Row c p n cap d] h) : FC c f (l ++ [x]) w0 h := by
  obtain ⟨h1, h2, _, l1, l2, a, h3, h4, _, l3, l4, b, _⟩ := hh
  intro y hy
  rcases List.mem_append.1 hy with hy | hy
  · exact (a y hy).mono l1
  · rw [List.mem_singleton.1 hy, hx]
    have hb : d.length = n := b.1
    have := (Row.NT b).mono (Hp.le_trans l3 l2)
    rw [← hb] at this
    exact this
theorem XX {w0 : World} {L : List ab} {c : Ec α} {f : β → Option Addr × List α} {l : List β} {x : β} (hm : FC c f l ∈ L) (hx : x ∈ l) : Has w0 L c (f x).1 (f x).2.length (f x).2 := ⟨_, hm, fun h hh => (hh x hx).rd⟩
end
end Go.Sl
namespace Go.Sl
section
variable {C : Ctx} {Q : QT} {E : Env} {L F : List ab} {ops : Array Oper} {rest : List Oper} {d : Nat} {ty : TypeId} {pos : String} {aft : Array Edge}
theorem z6 {x y : Operand} {dt st elem bE b o dn dc sn sc T n : Nat} {p2 : Option Addr} {vs ws pre post : List Value} {R : ab}
    (ht : sliceB C.P dt = some (elem, 1, bE)) (hd : an E x = some (.slice (some ⟨b, o, none⟩) dn dc)) (hs : an E y = some (.slice p2 sn sc))
    (hL : fR L (ai b T (pre ++ vs ++ post)) F) (hm : R ∈ F) (hR : ∀ h, R C.w0 h → Rd p2 n 1 ws C.w0 h) (ho : pre.length = o) (hn : n = min sn dn) (hv : vs.length = n) (h1 : ws.all Value.oneCell' = true) :
    jM C (.call ⟨.builtin .copy, [x, y].toArray, #[dt, st]⟩) ty E L (fun v L' => v = .int .i64 n ∧ L' = ai b T (pre ++ ws ++ post) :: F) := by
  intro d pos aft g a w K Qx ha hi hK
  obtain ⟨ht1, i, hi2, hsz, _⟩ := iH ht
  have hi1 := hi.perm hL.perm
  obtain ⟨hwl, hwc⟩ := hi1.tail.rd hm hR
  obtain ⟨consts, hrun⟩ := ja (C := C) (ty := ty) (pos := pos) (aft := aft) (b := .copy) (xs := [x, y]) (tys := #[dt, st]) (vs := [.slice (some ⟨b, o, none⟩) dn dc, .slice p2 sn sc]) (a := a) (by simp [ha.eval hd, ha.eval hs]) d g w
  suffices h : ∃ w', (Builtin.copy_ #[dt, st] ty #[.slice (some ⟨b, o, none⟩) dn dc, .slice p2 sn sc]).run C.P w = .ok (.int .i64 n) w' ∧ Inv C.w0 (ai b T (pre ++ ws ++ post) :: F) w' by
    obtain ⟨w', hr, hi'⟩ := h
    unfold Oper.wp
    rw [hrun]
    simp only [builtin, Sem.run_bind, hr, Result.andThen_ok, Sem.run_pure]
    exact hK _ _ _ ⟨rfl, rfl⟩ hi'
  have hfirst : (Builtin.firstCells 1 n (.slice p2 sn sc)).run C.P w = .ok ws.toArray w := by
    by_cases hm0 : n = 0
    · subst hm0
      have hw0 : ws = [] := List.length_eq_zero_iff.1 (by omega)
      subst hw0
      cases p2 <;> simp [Builtin.firstCells, loadCells, loadCellsFrom]
    · rcases hwc with hwc | ⟨b2, o2, rfl, hc⟩
      · exact absurd hwc hm0
      · exact run_firstCells_some (P := C.P) w 1 n _ sn sc ws hwl (fun j v hj => by rw [Addr.fa]; exact hc j v hj)
  have hall : ∀ u ∈ ws, u.oneCell' = true := fun u hu => by simpa using List.all_eq_true.1 h1 u hu
  have hwn : ws.length = n := by omega
  have hfit : o + ws.length ≤ (pre ++ vs ++ post).length := by simp only [List.length_append]; omega
  obtain ⟨w', hr, hi'⟩ := iE (C := C) ws o 0 _ _ w hall (by simpa using hfit) hi1
  refine ⟨w', ?_, ?_⟩
  · have hmin : Nat.min sn dn = n := by rw [hn]
    simp [Builtin.copy_, run_underlying ht1, sizeOf, typeInfo, hi2, hsz, Builtin.lenOf, hmin, hfirst, hr, goInt]
  · have e5 : (pre ++ vs ++ post).take (o + 0) = pre := by
      rw [Nat.add_zero, List.append_assoc]
      exact List.take_left' ho
    have e6 : (pre ++ vs ++ post).drop (o + 0 + ws.length) = post := by
      rw [Nat.add_zero, show o + ws.length = (pre ++ vs).length by simp; omega, List.drop_left]
    rw [e5, e6] at hi'
    exact hi'
theorem Py {α : Type} {c : Ec α} {x y : Operand} {dt st bE dn dc sn sc n cap k m cnt : Nat} {p p2 : Option Addr} {l ws : List α}
    (hsz : c.sz = 1) (ht : sliceB C.P dt = some (c.T, c.sz, bE)) (hd : an E x = some (.slice (dm p k m 1) dn dc)) (hs : an E y = some (.slice p2 sn sc)) (hL : fR L (Row c p n cap l) F) (H : Has C.w0 F c p2 cnt ws) (hc : cnt = min sn dn) (hk : k + cnt ≤ n) (hkm : k < m) (h0 : 0 < n) :
    jM C (.call ⟨.builtin .copy, [x, y].toArray, #[dt, st]⟩) ty E L (fun v L' => v = .int .i64 cnt ∧ L' = Row c p n cap (l.take k ++ ws ++ l.drop (k + cnt)) :: F) := by
  intro d pos aft g a w K Qx ha hi hK
  have hi1 := hi.perm hL.perm
  have hlen : l.length = n := ((own (w0 := C.w0) (L := Row c p n cap l :: F) aA).fact hi1).1
  obtain ⟨R, hm, hR⟩ := H
  have hwl : ws.length = cnt := (Has.fact ⟨R, hm, hR⟩ hi1.tail).1
  obtain ⟨zz, hzz, hi2⟩ := Inv.vn (Sl.open_ C.w0) (hi1.imp (fun h hh => hh.2))
  cases zz with
  | none => obtain ⟨_, h1, _⟩ := hzz; omega
  | some zz =>
    obtain ⟨b, o, pre, post⟩ := zz
    obtain ⟨rfl, e1, e2, e3, e4⟩ := hzz
    have hfl := fi c l
    rw [hsz] at hfl e2 e3
    have hsp : dm (some ⟨b, o, none⟩) k m 1 = some ⟨b, o + k, none⟩ := by
      unfold dm
      rw [if_neg (by omega)]
      simp [Addr.fa]
    have hcells : l.flatMap c.e = (l.take k).flatMap c.e ++ ((l.drop k).take cnt).flatMap c.e ++ (l.drop (k + cnt)).flatMap c.e := by
      rw [← List.flatMap_append, ← List.flatMap_append]
      congr 1
      rw [List.append_assoc, ← List.drop_drop, List.take_append_drop, List.take_append_drop]
    have hi3 : Inv C.w0 (ai b c.T ((pre ++ (l.take k).flatMap c.e) ++ ((l.drop k).take cnt).flatMap c.e ++ ((l.drop (k + cnt)).flatMap c.e ++ post)) :: F) w := by
      have := hi2
      rw [hcells] at this
      simpa [List.append_assoc] using this
    have l1 : ((l.take k).flatMap c.e).length = k := by rw [fi, hsz, List.length_take]; omega
    have l2 : (((l.drop k).take cnt).flatMap c.e).length = cnt := by rw [fi, hsz, List.length_take, List.length_drop]; omega
    refine z6 (C := C) (E := E) (ty := ty) (st := st) (o := o + k) (vs := ((l.drop k).take cnt).flatMap c.e) (ws := ws.flatMap c.e) (n := cnt) (R := R) (by rw [← hsz]; exact ht) (by rw [hd, hsp]) hs fR.head hm (fun h hh => by have := (hR h hh).2; rwa [hsz] at this) (by simp only [List.length_append]; omega) hc l2 (mf c ws) d pos aft g a w K Qx ha hi3 ?_
    rintro v L' w' ⟨e5, e6⟩ hi'
    subst e6
    refine hK v _ w' ⟨e5, rfl⟩ ?_
    refine Inv.cls (B := [ai b c.T (pre ++ (l.take k ++ ws ++ l.drop (k + cnt)).flatMap c.e ++ post)]) (fun h hc2 => ⟨by simp only [List.length_append, List.length_take, List.length_drop]; omega, Sl.mk hc2 e1 (by rw [fi, hsz]; simp only [List.length_append, List.length_take, List.length_drop]; omega) (by rw [hsz]; exact e3) e4⟩) ?_
    simpa [List.flatMap_append, List.append_assoc] using hi'
theorem n9 (T : TypeId) (k : IntKind) : ∀ l : List Int, l.flatMap (aD T k).e = l.map (Value.int k)
  | [] => rfl
  | a :: l => by
    have ih := n9 T k l
    simp only [List.flatMap_cons, List.map_cons, ih]
    rfl
theorem Zf {w0 : World} {b T T' : Nat} {k : IntKind} {xs : List Int} (hm : ai b T (CA [] k xs []) ∈ L) : Has w0 L (aD T' k) (some ⟨b, 0, none⟩) xs.length xs := by
  refine ⟨_, hm, fun h hh => ⟨rfl, by rw [fi], .inr ⟨b, 0, rfl, fun i v hv => ?_⟩⟩⟩
  obtain ⟨_, hb⟩ : ∃ e, h b = some (.cells (CA [] k xs []).toArray T (Mk e _)) := hh
  unfold k5
  rw [hb]
  rw [n9] at hv
  simpa [CA, ints] using hv
end
end Go.Sl
namespace Go.Sl
section
variable {C : Ctx} {Q : QT} {E : Env} {L F : List ab} {ops : Array Oper} {rest : List Oper} {d : Nat} {ty : TypeId} {pos : String} {aft : Array Edge}
theorem GZ {x : Operand} {src dst T : TypeId} {l : List Int} (hs : C.P.underlying src = some .string) (hd : C.P.underlying dst = some (.slice T)) (he : C.P.underlying T = some (.int .u8)) (hx : an E x = some (.string (strOfNums l))) (hl : ∀ x ∈ l, 0 ≤ x ∧ x < 256) :
    jM C (.convert src dst x) ty E L (fun v L' => ∃ b c, v = .slice (some ⟨b, 0, none⟩) l.length c ∧ L' = Row (aD T .u8) (some ⟨b, 0, none⟩) l.length c l :: L) := by
  intro d pos aft g a w K Qx ha hi hK
  have hconv := Lib.run_convert_string_bytes (P := C.P) w src dst T (strOfNums l) hs hd he
  have hr : (execOp a.eval ⟨d, .convert src dst x, ty, pos, aft, g⟩).run C.P w = .ok (.value (.slice (some ⟨w.heap.size, 0, none⟩) (strOfNums l).size (grownCap w (strOfNums l).size 0 T))) (Lib.bytesWorld w T (strOfNums l)) := by
    simp only [execOp, ha.eval hx, Sem.run_bind, hconv, Result.andThen_ok, Sem.run_pure]
  unfold Oper.wp
  rw [hr]
  refine hK _ _ _ ⟨w.heap.size, grownCap w (strOfNums l).size 0 T, by rw [kc], rfl⟩ ?_
  have e : (Lib.bytesCells w T (strOfNums l)).toList = l.map (Value.int .u8) ++ List.replicate (grownCap w (strOfNums l).size 0 T - (strOfNums l).size) (.int .u8 0) := by
    unfold Lib.bytesCells
    rw [Array.toList_append, Array.toList_map, Array.toList_replicate, qK l hl]
  have h1 : Inv C.w0 (ai w.heap.size T (Lib.bytesCells w T (strOfNums l)).toList :: L) (w.drew.alloc (.cells (Lib.bytesCells w T (strOfNums l)).toList.toArray T)) := by
    have := hi.drew.alloc T (Lib.bytesCells w T (strOfNums l)).toList
    simpa using this
  rw [Array.toArray_toList] at h1
  have hsz : (w.drew.alloc (.cells (Lib.bytesCells w T (strOfNums l)) T)).heap.size = w.heap.size + 1 := by simp
  have hp := h1.write (w' := Lib.bytesWorld w T (strOfNums l)) (cs' := (Lib.bytesCells w T (strOfNums l)).toList) (e' := true) rfl rfl rfl (by rw [Lib.bytesWorld_size, hsz]; exact Nat.le_refl _) (by rw [Lib.bytesWorld_at_new w T _]; simp [Mk]) (fun k hk hlt => by
    have hlt2 : k < w.heap.size := by omega
    rw [Lib.bytesWorld_at_old w T _ k hlt2]
    show w.heap[k]? = (w.heap.push _)[k]?
    rw [Array.getElem?_push, if_neg (by omega)])
  have hg := grownCap_ge w (strOfNums l).size 0 T
  rw [kc] at hg
  refine hp.imp (fun h hh => ⟨rfl, .inr ⟨w.heap.size, 0, [], List.replicate (grownCap w (strOfNums l).size 0 T - (strOfNums l).size) (.int .u8 0), rfl, ?_, rfl, by rw [fi], by rw [List.length_replicate, kc]; exact Nat.le_of_eq (Nat.mul_one _), by rw [kc]; exact hg⟩⟩)
  rw [List.nil_append, show l.flatMap (aD T .u8).e = l.map (Value.int .u8) from zB l, ← e]
  exact hh
theorem yg {x : Operand} {src dst T : TypeId} {l : List Int} (hs : C.P.underlying src = some .string) (hd : C.P.underlying dst = some (.slice T)) (he : C.P.underlying T = some (.int .u8)) (hx : an E x = some (.string (strOfNums l))) (hl : ∀ x ∈ l, 0 ≤ x ∧ x < 256) (hn : Nat.blt d C.n = true)
    (k : ∀ b c, cy C ops rest Q ((d, .slice (some ⟨b, 0, none⟩) l.length c) :: E) (Row (aD T .u8) (some ⟨b, 0, none⟩) l.length c l :: L)) : cy C ops (⟨some d, .convert src dst x, ty, pos, aft, none⟩ :: rest) Q E L :=
  n7 (GZ hs hd he hx hl) hn fun v L' ⟨b, c, e1, e2⟩ => by subst e1; subst e2; exact k b c
theorem G0 {x : Operand} {src dst T : TypeId} {l : List Int} (hs : C.P.underlying src = some .string) (hd : C.P.underlying dst = some (.slice T)) (he : C.P.underlying T = some (.int .u8)) (hx : an E x = some (.string (strOfNums l))) (hl : ∀ x ∈ l, 0 ≤ x ∧ x < 256) (hn : Nat.blt d C.n = true)
    (k : ∀ b c, cy C ops rest Q ((d, .slice (some ⟨b, 0, none⟩) l.length c) :: E) (aE (aD T .u8) (some ⟨b, 0, none⟩) l.length l :: L)) : cy C ops (⟨some d, .convert src dst x, ty, pos, aft, none⟩ :: rest) Q E L :=
  yg hs hd he hx hl hn fun b c => TD .head (fun h hh => ⟨hh.1, hh.2.rd⟩) (k b c)
theorem xo {x : Operand} {t : TypeId} {k : IntKind} {n r : Int} (hk : k.signed = false) (h : an E x = some (.int k n)) (e : k.wrap ((BitVec.ofInt k.bits k.max ^^^ BitVec.ofInt k.bits n).toNat : Int) = r) : bB C (.unOp .xor t x) ty E L (.int k r) L := cF fun d pos aft g a w ha => by
  rw [← e]
  simp [execOp, ha.eval h, Op.unary, Op.intBits, hk]
theorem AX {x y : Operand} {t : TypeId} {l : List Int} {k : IntKind} {i : Int} (n : Nat) (ht : C.P.underlying t = some .string) (hx : an E x = some (.string (strOfNums l))) (hy : an E y = some (.int k i)) (hl : ∀ x ∈ l, 0 ≤ x ∧ x < 256) (hi : i = (n : Int)) (hn : n < l.length) : bB C (.index t x y) ty E L (.int .u8 (l.getD n 0)) L := cF fun d pos aft g a w ha => by
  subst hi
  have hs : (strOfNums l)[n]? = some (UInt8.ofNat (l.getD n 0).toNat) := by
    have h1 : n < (strOfNums l).size := by rw [kc]; exact hn
    rw [getElem?_pos (strOfNums l) n h1]
    congr 1
    simp [strOfNums, ByteArray.getElem_eq_getElem_data, hn]
  have hb : (((UInt8.ofNat (l.getD n 0).toNat).toNat : Nat) : Int) = l.getD n 0 := by
    have hm := hl (l.getD n 0) (by rw [List.getD_eq_getElem?_getD, List.getElem?_eq_getElem hn]; exact List.getElem_mem hn)
    rw [UInt8.toNat_ofNat', Nat.mod_eq_of_lt (by omega)]
    omega
  simp [execOp, ha.eval hx, ha.eval hy, Instr.index, asIntOf, run_underlying ht, hs]
  simpa using hb
end
end Go.Sl
namespace Go.Sl
section
variable {C : Ctx} {E : Env} {L : List ab} {ty : TypeId} {α : Type}
theorem Kz {x y : Operand} {t n : Nat} {k : IntKind} {cs : Array Value} {iv : Int} {v : Value} (c : Ec α) (l : List α) (i : Nat) (ht : gq C.P t = some (n, c.T, c.sz)) (ha : gf C.P c.T = some c.sz) (hx : an E x = some (.agg cs)) (hc : cs.toList = l.flatMap c.e) (hy : an E y = some (.int k iv)) (hi : iv = (i : Int)) (hn : i < n) (hl : i < l.length) (hv : .agg (c.e (c.g l (i : Int))).toArray = v) : bB C (.index t x y) ty E L v L :=
  cF fun d pos aft g a w ha' => by
    subst hv; subst hi
    obtain ⟨h1, i', h2, h3⟩ := lJ ht
    obtain ⟨g1, g2⟩ := kI ha w
    have hlt : (i : Int) < (n : Int) := by omega
    have e : cs.extract (i * c.sz) (i * c.sz + c.sz) = (c.e (c.g l (i : Int))).toArray := by
      apply Array.ext'
      rw [Array.toList_extract, hc]
      have := Li c l i hl
      rw [c.wv hl]
      simpa [List.extract, Nat.add_sub_cancel_left] using this
    simp [execOp, ha'.eval hx, ha'.eval hy, Instr.index, asIntOf, run_underlying h1, run_sizeOf h2, h3, hlt, hn, part, g1, e]
end
end Go.Sl
namespace Go.Sl
section
variable {C : Ctx} {Q : QT} {E : Env} {L F G : List ab} {ops : Array Oper} {rest : List Oper} {ty : TypeId} {pos : String} {aft : Array Edge}
theorem vz {x : Operand} {t n e sz b o : Nat} (ht : gq C.P t = some (n, e, sz)) (hx : an E x = some (.pointer (some ⟨b, o, none⟩))) : bB C (.slice t x none none none) ty E L (.slice (some ⟨b, o, none⟩) n n) L :=
  cF fun d pos aft g a w ha => by
    obtain ⟨e1, i, e2, e3⟩ := lJ ht
    simp [execOp, ha.eval hx, Instr.sliceAt, run_underlying e1, Instr.sureAddr, Instr.sliceBounds, run_sizeOf e2, e3, Addr.fa]
theorem xJ {d : Option Nat} {op : Op} {u : Value} {M : List ab} (h : jM C op ty E L (fun v L' => v = u ∧ L' = M)) (hp : M.Perm G) : Step C ops ⟨d, op, ty, pos, aft, none⟩ E L (fun v L' => v = u ∧ L'.Perm G) :=
  ui fun d pos aft g a w K Q ha hi hK => h d pos aft g a w K Q ha hi fun v L' w' ⟨e1, e2⟩ hi' => hK v L' w' ⟨e1, e2 ▸ hp⟩ hi'
theorem Kk {x y : Operand} {k : IntKind} {dt st T' bE b dn dc sn sc T cnt : Nat} {p2 : Option Addr} {xs ws : List Int}
    (ht : sliceB C.P dt = some (T', 1, bE)) (hd : an E x = some (.slice (some ⟨b, 0, none⟩) dn dc)) (hs : an E y = some (.slice p2 sn sc)) (hL : fR L (ai b T (CA [] k xs [])) F) (H : Has C.w0 F (aD T' k) p2 cnt ws) (hc : cnt = min sn dn) (hx : xs.length = cnt) :
    jM C (.call ⟨.builtin .copy, [x, y].toArray, #[dt, st]⟩) ty E L (fun v L' => v = .int .i64 cnt ∧ L' = ai b T (CA [] k ws []) :: F) := by
  intro d pos aft g a w K Qx ha hi hK
  obtain ⟨R, hm, hR⟩ := H
  have e : ∀ l : List Int, CA [] k l [] = [] ++ l.flatMap (aD T' k).e ++ [] := fun l => by rw [n9]; simp [CA, ints]
  rw [e] at hL
  rw [show CA [] k ws [] = [] ++ ws.flatMap (aD T' k).e ++ [] from e ws] at hK
  exact z6 (C := C) (o := 0) (pre := []) (post := []) (n := cnt) ht hd hs hL hm (fun h hh => by have := (hR h hh).2; simpa using this) rfl hc (by rw [fi]; simp [aD, hx]) (mf (aD T' k) ws) d pos aft g a w K Qx ha hi hK
theorem eZ {α : Type} {c : Ec α} {w0 w : World} {p : Option Addr} {n cap : Nat} {l : List α} (hi : Inv w0 L w) (hm : Row c p n cap l ∈ L) : n ≤ cap := by
  obtain ⟨F, hF⟩ := hi.mem hm
  have h2 := hF.imp (fun h hh => hh.2)
  exact (G1 h2 (List.mem_cons_self ..)).2.1
end
end Go.Sl
namespace Go.Sl
section
variable {C : Ctx} {ops : Array Oper} {E : Env} {L F : List ab} {d : Option Nat} {ty : TypeId} {pos : String} {aft : Array Edge}
theorem wZ {α : Type} (g : α → Value) (pr : Value → α) (A : α → List ab) {f : FuncId} {args : List Operand} {tys : Array TypeId} {vs : List Value} {Pre : List ab} (hS : aC C.P f vs Pre (aG fun v G => ∃ a, v = g a ∧ G = A a)) (hp : ∀ a, pr (g a) = a) (hb : aB C.P f = true) (hE : gG E args = some vs) (hL : eE L Pre F) :
    Step C ops ⟨d, .call ⟨.value (.func f), args.toArray, tys⟩, ty, pos, aft, none⟩ E L (fun v L' => v = g (pr v) ∧ True ∧ L'.Perm (A (pr v) ++ F)) :=
  rk hS hb hE hL fun v G ⟨a, e1, e2⟩ => by subst e1; subst e2; rw [hp]; exact ⟨rfl, trivial, .refl _⟩
def ir : Value → Option Addr × Nat | .tuple ⟨[.slice p _ c, _]⟩ => (p, c) | _ => (none, 0)
def vm : Value → Nat | .tuple ⟨[.agg ⟨[_, _, .slice (some a) _ _]⟩, _]⟩ => a.block | _ => 0
theorem Bz {T : TypeId} {s x : Operand} {t tS bE n cap : Nat} {p : Option Addr} {l l2 : List Int} {zs : List Value}
    (ht : sliceB C.P t = some (T, 1, bE)) (hS : C.P.underlying tS = some .string) (hz : cm C.P T = some zs) (hby : Nat.ble 1 bE = true)
    (hs : an E s = some (.slice p n cap)) (hx : an E x = some (.string (strOfNums l2))) (hl2 : ∀ x ∈ l2, 0 ≤ x ∧ x < 256) (hL : fR L (Row (aD T .u8) p n cap l) F) (hb : (n + l2.length) * bE ≤ 140737488355328) :
    jM C (.call ⟨.builtin .append, [s, x].toArray, #[t, tS]⟩) ty E L (fun v L' => ∃ p' cap', v = .slice p' (n + l2.length) cap' ∧ L' = Row (aD T .u8) p' (n + l2.length) cap' (l ++ l2) :: F) := fun d pos aft g a w K Qx ha hi hK => by
  have hl1 : l.length = n := ((own (w0 := C.w0) (L := Row (aD T .u8) p n cap l :: F) aA).fact (hi.perm hL.perm)).1
  have hi2 : Inv C.w0 (Sl p n cap T 1 (l.flatMap (aD T .u8).e) :: F) w := (hi.perm hL.perm).imp (fun h hh => hh.2)
  refine D9 (C := C) (E := E) (ty := ty) (vs := l.flatMap (aD T .u8).e) (ws := l2.map (Value.int .u8)) ht hS hz rfl hby hs hx (qK l2 hl2) (kc l2) fR.head hb d pos aft g a w K Qx ha hi2 ?_
  rintro v L' w' ⟨p', cap', e1, e2⟩ hi'
  subst e2
  exact hK v _ w' ⟨p', cap', e1, rfl⟩ (hi'.imp (fun h hh => ⟨by simp [hl1], by rw [List.flatMap_append, show l2.flatMap (aD T .u8).e = l2.map (Value.int .u8) from zB l2]; exact hh⟩))
end
end Go.Sl
namespace Go.Sl
def num : Nat → List Value → List (Nat × Value)
  | _, [] => []
  | i, v :: vs => (i, v) :: num (i + 1) vs
theorem yY (k : IntKind) : ∀ (l : List Int) (i : Nat) (cs : List Value), i + l.length ≤ cs.length → Instr.fill (fun i => some (i * 1, 1)) cs.toArray (num i (l.map (Value.int k))) = some (cs.take i ++ l.map (Value.int k) ++ cs.drop (i + l.length)).toArray
  | [], i, cs, h => by simp [num, Instr.fill]
  | x :: l, i, cs, h => by
    simp only [List.length_cons] at h
    have hi : i < cs.length := by omega
    have e : (cs.set i (.int k x)).take (i + 1) = cs.take i ++ [.int k x] := by
      rw [List.take_add_one, List.take_set_of_le (Nat.le_refl _)]
      simp [hi]
    have e2 : (cs.set i (.int k x)).drop (i + 1 + l.length) = cs.drop (i + (l.length + 1)) := by
      rw [List.drop_set_of_lt (by omega)]; congr 1; omega
    have ih := yY k l (i + 1) (cs.set i (.int k x)) (by rw [List.length_set]; omega)
    rw [e, e2] at ih
    have hst : ∀ r, Instr.fill (fun i => some (i * 1, 1)) cs.toArray ((i, .int k x) :: r) = Instr.fill (fun i => some (i * 1, 1)) (cs.set i (.int k x)).toArray r := fun r => by
      rw [Instr.fill]
      simp [Value.cells]
      omega
    rw [List.map_cons, num, hst, ih]
    simp
section
variable {C : Ctx} {Q : QT} {E : Env} {L : List ab} {ops : Array Oper} {rest : List Oper} {d : Nat} {ty : TypeId} {pos : String} {aft : Array Edge}
theorem wR {T : TypeId} {k : IntKind} {t bE len : Nat} {parts : List (Nat × Operand)} {z : Value} (l : List Int) (ht : sliceB C.P t = some (T, 1, bE)) (hz : cm C.P T = some [z]) (hsm : Nat.ble len 16777216 = true)
    (hp : oq E parts = some (num 0 (l.map (Value.int k)))) (hl : l.length = len) (hd : Nat.blt d C.n = true)
    (kk : ∀ b, cy C ops rest Q ((d, .slice (some ⟨b, 0, none⟩) len len) :: E) (Row (aD T k) (some ⟨b, 0, none⟩) len len l :: L)) : cy C ops (⟨some d, .buildSlice t len parts.toArray, ty, pos, aft, none⟩ :: rest) Q E L := by
  refine cM (aD T k) l ht hz rfl (by rw [show len * (aD T k).sz = len from Nat.mul_one _]; exact hsm) hp ?_ hl hd kk
  have hn : ((List.replicate len [z]).flatten).length = len := by simp
  have := yY k l 0 ((List.replicate len [z]).flatten) (by rw [hn]; omega)
  rw [Nat.zero_add, List.drop_eq_nil_of_le (by rw [hn]; omega), List.take_zero, List.nil_append, List.append_nil] at this
  rw [show l.flatMap (aD T k).e = l.map (Value.int k) from n9 T k l]
  exact this
end
end Go.Sl
namespace Go.Sl
open Go.RowKit (Below)
def H8 (w0 : World) (h : Hp) : Prop := ∀ b o, h b = some o → w0.heap.size ≤ b
theorem CJ {w0 : World} {h h' : Hp} {a : Addr} {v : Value} (hn : H8 w0 h') (hl : Hp.le h h') (e : k5 w0 h a = some v) : k5 w0 h' a = some v := by
  unfold k5 at e ⊢
  cases hb : h a.block with
  | some o => rw [hb] at e; rw [hl _ _ hb]; exact e
  | none =>
    rw [hb] at e
    simp only at e
    split at e
    · rename_i hlt
      cases hb' : h' a.block with
      | some o => exact absurd (hn _ _ hb') (by omega)
      | none => simp only [hlt, if_true]; exact e
    · cases e
theorem aE.wA {α : Type} {c : Ec α} {p : Option Addr} {n : Nat} {l : List α} {w0 : World} {h h' : Hp} (hn : H8 w0 h') (hl : Hp.le h h') (hr : aE c p n l w0 h) : aE c p n l w0 h' := by
  obtain ⟨h1, h2, h3⟩ := hr
  refine ⟨h1, h2, ?_⟩
  rcases h3 with h3 | ⟨b, o, e1, e2⟩
  · exact .inl h3
  · exact .inr ⟨b, o, e1, fun i v hv => CJ hn hl (e2 i v hv)⟩
theorem FV {L G M F : List ab} {A : ab} (hr : eE L G M) (hd : Drop M F) (hA : ∀ w0 h, H8 w0 h → bU w0 G h → A w0 h) : Sub L (A :: F) := (sub hr hd).trans fun w0 w hi => ⟨hi.below, by
  obtain ⟨h, a, k⟩ := hi.heap
  obtain ⟨h1, h2, d, l1, l2, k1, k2⟩ := iV.1 k
  exact ⟨h, a, h1, h2, d, l1, l2, hA w0 h1 (fun b o e => (a b o (l1 b o e)).1) k1, k2⟩⟩
theorem ti {P : Program} {w : World} {d : Nat} {e : TypeId} {k : IntKind} (hu : P.underlying e = some (.int k)) (hs : bP P e = true) (xs ys : Array Value) (f g : Nat → Int) : ∀ (is : List Nat),
    (∀ j ∈ is, xs[j]? = some (.int k (f j)) ∧ ys[j]? = some (.int k (g j))) → (Op.eqItems (d + 1) e 1 xs ys is).run P w = .ok (is.all fun j => decide (f j = g j)) w
  | [], _ => by simp [Op.eqItems]
  | j :: is, h => by
    obtain ⟨h1, h2⟩ := h j List.mem_cons_self
    have ih := ti (d := d) (w := w) hu hs xs ys f g is (fun q hq => h q (List.mem_cons_of_mem _ hq))
    have e1 : (part e xs (j * 1)).run P w = .ok (.int k (f j)) w := by simp [part, j8 hs, h1]
    have e2 : (part e ys (j * 1)).run P w = .ok (.int k (g j)) w := by simp [part, j8 hs, h2]
    have e3 : (Op.equalIn (d + 1) e (.int k (f j)) (.int k (g j))).run P w = .ok (decide (f j = g j)) w := by
      simp [Op.equalIn, run_underlying hu]
      rw [Bool.eq_iff_iff]; simp
    simp only [Op.eqItems, Sem.run_bind, e1, e2, e3, Result.andThen_ok, List.all_cons]
    cases hd : decide (f j = g j) with
    | true => simp [ih]
    | false => simp
section
variable {C : Ctx} {ty : TypeId} {E : Env}
theorem TA {t t' : TypeId} {x y : Operand} {L : List ab} {xs1 ys1 : List Int} {n el : Nat} {k : IntKind} (ht : gq C.P t = some (n, el, 1)) (hu : C.P.underlying el = some (.int k)) (hs : bP C.P el = true) (hg : C.P.eqGuardType C.P.depth t = false)
    (hx : an E x = some (.agg (xs1.map (Value.int k)).toArray)) (hy : an E y = some (.agg (ys1.map (Value.int k)).toArray)) (la : xs1.length = n) (lb : ys1.length = n) :
    bB C (.binOp .neq t x y t') ty E L (.bool (!(decide (xs1 = ys1)))) L := by
  obtain ⟨h1, i, h2, h3⟩ := lJ ht
  have hc : C.P.cellsOf el = 1 := by simp [Program.cellsOf, h2, h3]
  have hrun : ∀ w, (Op.equalIn 10000 t (.agg (xs1.map (Value.int k)).toArray) (.agg (ys1.map (Value.int k)).toArray)).run C.P w = .ok (decide (xs1 = ys1)) w := by
    intro w
    rw [show (10000 : Nat) = 9999 + 1 from rfl, run_equalIn_array w 9999 _ _ h1 h2, hc, show (9999 : Nat) = 9998 + 1 from rfl]
    rw [ti hu hs _ _ (fun j => xs1.getD j 0) (fun j => ys1.getD j 0) (List.range n) (fun j hj => ?_)]
    · congr 1
      rw [Bool.eq_iff_iff, List.all_eq_true, decide_eq_true_eq]
      constructor
      · intro h
        apply List.ext_getElem (by omega)
        intro j j1 j2
        have := h j (List.mem_range.2 (by omega))
        rw [decide_eq_true_eq] at this
        simpa [List.getD_eq_getElem?_getD, j1, j2] using this
      · rintro rfl j _
        simp
    · have hj := List.mem_range.1 hj
      have h4 : j < xs1.length := by omega
      have h5 : j < ys1.length := by omega
      simp [List.getD_eq_getElem?_getD, h4, h5]
  have hgd : ∀ w, (eqGuard .neq t x y (.agg (xs1.map (Value.int k)).toArray) (.agg (ys1.map (Value.int k)).toArray)).run C.P w = .ok () w := by
    intro w
    unfold eqGuard
    simp [hg]
  exact cF fun d pos aft g a w ha => by
    rw [iF d pos aft g (ha.eval hx) (ha.eval hy) (hgd w)]
    simp only [binOp, Op.equal, Op.maxDepth, Sem.run_bind, hrun, Result.andThen_ok, Sem.run_pure]
end
end Go.Sl
namespace Go.cg
variable {α : Type}
structure Rl (key : α → Int) (d : α) (l l' : List α) (a b : Nat) : Prop where
 len : l'.length = l.length
 out : ∀ i, i < a ∨ b ≤ i → l'.getD i d = l.getD i d
 mem : ∀ i, a ≤ i → i < b → ∃ j, a ≤ j ∧ j < b ∧ l'.getD i d = l.getD j d
 same : ∀ c, l'.filter (fun x => decide (key x = c)) = l.filter (fun x => decide (key x = c))
def Sd (key : α → Int) (d : α) (l : List α) (a b : Nat) : Prop := ∀ i j, a ≤ i → i ≤ j → j < b → key (l.getD i d) ≤ key (l.getD j d)
variable {key : α → Int} {d : α}
theorem Rl.refl (l : List α) (a b : Nat) : Rl key d l l a b := ⟨rfl, fun _ _ => rfl, fun i h1 h2 => ⟨i, h1, h2, rfl⟩, fun _ => rfl⟩
theorem Rl.trans {l1 l2 l3 : List α} {a b : Nat} (h : Rl key d l1 l2 a b) (k : Rl key d l2 l3 a b) : Rl key d l1 l3 a b :=
 ⟨k.len.trans h.len, fun i hi => (k.out i hi).trans (h.out i hi), fun i h1 h2 => by
  obtain ⟨j, j1, j2, j3⟩ := k.mem i h1 h2
  obtain ⟨m, m1, m2, m3⟩ := h.mem j j1 j2
  exact ⟨m, m1, m2, j3.trans m3⟩, fun c => (k.same c).trans (h.same c)⟩
theorem Rl.wide {l l' : List α} {a b a' b' : Nat} (h : Rl key d l l' a b) (h1 : a' ≤ a) (h2 : b ≤ b') : Rl key d l l' a' b' :=
 ⟨h.len, fun i hi => h.out i (by omega), fun i i1 i2 => by
  by_cases hi : a ≤ i ∧ i < b
  ·obtain ⟨j, j1, j2, j3⟩ := h.mem i hi.1 hi.2
   exact ⟨j, by omega, by omega, j3⟩
  ·exact ⟨i, i1, i2, h.out i (by omega)⟩, h.same⟩
theorem Sd.congr {l l' : List α} {a b : Nat} (h : Sd key d l a b) (e : ∀ i, a ≤ i → i < b → l'.getD i d = l.getD i d) : Sd key d l' a b := fun i j h1 h2 h3 => by
 rw [e i h1 (by omega), e j (by omega) h3]; exact h i j h1 h2 h3
theorem Sd.small {l : List α} {a b : Nat} (h : b ≤ a + 1) : Sd key d l a b := fun i j h1 h2 h3 => by
 obtain rfl : i = j := by omega
 exact Int.le_refl _
theorem Sd.sub {l : List α} {a b a' b' : Nat} (h : Sd key d l a b) (h1 : a ≤ a') (h2 : b' ≤ b) : Sd key d l a' b' := fun i j h3 h4 h5 => h i j (by omega) h4 (by omega)
theorem Sd.join {l : List α} {a m b : Nat} (h1 : Sd key d l a m) (h2 : Sd key d l m b) (h : ∀ i j, a ≤ i → i < m → m ≤ j → j < b → key (l.getD i d) ≤ key (l.getD j d)) : Sd key d l a b := fun i j i1 i2 i3 => by
 by_cases hj : j < m
 ·exact h1 i j i1 i2 hj
 ·by_cases hi : i < m
  ·exact h i j i1 hi (by omega) i3
  ·exact h2 i j (by omega) i2 i3
theorem PT (l : List α) (i : Nat) (h : i + 1 < l.length) : l = l.take i ++ (l.getD i d :: l.getD (i + 1) d :: l.drop (i + 2)) := by
 conv => lhs; rw [← List.take_append_drop i l]
 congr 1
 rw [List.drop_eq_getElem_cons (by omega), List.drop_eq_getElem_cons h]
 simp [List.getD_eq_getElem?_getD, show i < l.length by omega, h]
theorem ER (l : List α) (i : Nat) (h : i + 1 < l.length) : (l.set i (l.getD (i + 1) d)).set (i + 1) (l.getD i d) = l.take i ++ (l.getD (i + 1) d :: l.getD i d :: l.drop (i + 2)) := by
 apply List.ext_getElem?
 intro j
 have hl : (l.take i).length = i := by simp; omega
 by_cases h1 : j < i
 ·rw [List.getElem?_append_left (by omega), List.getElem?_set_ne (by omega), List.getElem?_set_ne (by omega)]
  simp [List.getElem?_take, h1]
 ·rw [List.getElem?_append_right (by omega), hl]
  by_cases h2 : j = i
  ·subst h2
   simp [List.getElem?_set, show j < l.length by omega]
  ·by_cases h3 : j = i + 1
   ·subst h3
    simp [List.getElem?_set, h]
   ·rw [List.getElem?_set_ne (by omega), List.getElem?_set_ne (by omega)]
    obtain ⟨k, rfl⟩ : ∃ k, j = i + 2 + k := ⟨j - (i + 2), by omega⟩
    rw [show i + 2 + k - i = k + 2 by omega]
    simp [List.getElem?_drop]
theorem swap_comm (l : List α) (i : Nat) (x y : α) : (l.set (i + 1) x).set i y = (l.set i y).set (i + 1) x := by
 rw [List.set_comm]; omega
theorem Rl.swap {l : List α} {a b i : Nat} (h1 : a ≤ i) (h2 : i + 1 < b) (hl : i + 1 < l.length) (hk : key (l.getD i d) ≠ key (l.getD (i + 1) d)) : Rl key d l ((l.set i (l.getD (i + 1) d)).set (i + 1) (l.getD i d)) a b := by
 refine ⟨by simp, fun j hj => ?_, fun j j1 j2 => ?_, fun c => ?_⟩
 ·simp only [List.getD_eq_getElem?_getD]
  rw [List.getElem?_set_ne (by omega), List.getElem?_set_ne (by omega)]
 ·by_cases e1 : j = i
  ·subst e1
   refine ⟨j + 1, by omega, h2, ?_⟩
   simp only [List.getD_eq_getElem?_getD]
   rw [List.getElem?_set_ne (by omega)]
   simp [List.getElem?_set, show j < l.length by omega]
  ·by_cases e2 : j = i + 1
   ·subst e2
    refine ⟨i, h1, by omega, ?_⟩
    simp only [List.getD_eq_getElem?_getD]
    simp [List.getElem?_set, hl]
   ·refine ⟨j, j1, j2, ?_⟩
    simp only [List.getD_eq_getElem?_getD]
    rw [List.getElem?_set_ne (by omega), List.getElem?_set_ne (by omega)]
 ·rw [ER l i hl]
  conv => rhs; rw [PT (d := d) l i hl]
  simp only [List.filter_append, List.filter_cons]
  congr 1
  generalize l.getD i d = x at hk
  generalize l.getD (i + 1) d = y at hk
  by_cases k1 : key x = c
  ·have k2 : ¬ key y = c := fun e => hk (k1.trans e.symm)
   simp [k1, k2]
  ·simp [k1]
theorem bH {x y : List α} {i : Nat} (h : i < x.length) : (x ++ y).getD i d = x.getD i d := by
 simp only [List.getD_eq_getElem?_getD, List.getElem?_append_left h]
theorem cU {x y : List α} {i : Nat} (h : x.length ≤ i) : (x ++ y).getD i d = y.getD (i - x.length) d := by
 simp only [List.getD_eq_getElem?_getD, List.getElem?_append_right h]
theorem hG {x : List α} {i : Nat} (h : i < x.length) : x.getD i d ∈ x := by
 simp [List.getD_eq_getElem?_getD, h]
theorem Rl.rotate {P X Y S : List α} {a b : Nat} (ha : a ≤ P.length) (hb : P.length + X.length + Y.length ≤ b) (hk : ∀ x ∈ X, ∀ y ∈ Y, key x ≠ key y) : Rl key d (P ++ X ++ Y ++ S) (P ++ Y ++ X ++ S) a b := by
 have hin : ∀ i, P.length ≤ i → i < P.length + X.length + Y.length → ∃ j, P.length ≤ j ∧ j < P.length + X.length + Y.length ∧ (P ++ Y ++ X ++ S).getD i d = (P ++ X ++ Y ++ S).getD j d := by
  intro i i1 i2
  by_cases h1 : i < P.length + Y.length
  ·refine ⟨i + X.length, by omega, by omega, ?_⟩
   rw [bH (by simp; omega), bH (by simp; omega), cU i1, bH (by simp; omega), cU (by simp; omega)]
   congr 1
   simp; omega
  ·refine ⟨i - Y.length, by omega, by omega, ?_⟩
   rw [bH (by simp; omega), cU (by simp; omega), bH (by simp; omega), bH (by simp; omega), cU (by omega)]
   congr 1
   simp; omega
 have hout : ∀ i, i < P.length ∨ P.length + X.length + Y.length ≤ i → (P ++ Y ++ X ++ S).getD i d = (P ++ X ++ Y ++ S).getD i d := by
  intro i hi
  rcases hi with hi | hi
  ·rw [bH (by simp; omega), bH (by simp; omega), bH hi, bH (by simp; omega), bH (by simp; omega), bH hi]
  ·rw [cU (by simp; omega), cU (by simp; omega)]
   congr 1
   simp; omega
 refine ⟨by simp; omega, fun i hi => hout i (by omega), fun i i1 i2 => ?_, fun c => ?_⟩
 ·by_cases hi : P.length ≤ i ∧ i < P.length + X.length + Y.length
  ·obtain ⟨j, j1, j2, j3⟩ := hin i hi.1 hi.2
   exact ⟨j, by omega, by omega, j3⟩
  ·exact ⟨i, i1, i2, hout i (by omega)⟩
 ·simp only [List.filter_append]
  have : Y.filter (fun x => decide (key x = c)) ++ X.filter (fun x => decide (key x = c)) = X.filter (fun x => decide (key x = c)) ++ Y.filter (fun x => decide (key x = c)) := by
   by_cases hx : ∃ x ∈ X, key x = c
   ·obtain ⟨x, x1, x2⟩ := hx
    have : Y.filter (fun x => decide (key x = c)) = [] := by
     rw [List.filter_eq_nil_iff]
     intro y hy
     simp
     intro e
     exact hk x x1 y hy (x2.trans e.symm)
    rw [this]; simp
   ·have : X.filter (fun x => decide (key x = c)) = [] := by
     rw [List.filter_eq_nil_iff]
     intro y hy
     simp
     intro e
     exact hx ⟨y, hy, e⟩
    rw [this]; simp
  rw [List.append_assoc (P.filter _), this]
  simp [List.append_assoc]
theorem blocks (l : List α) (a m b : Nat) (h1 : a ≤ m) (h2 : m ≤ b) (h3 : b ≤ l.length) : ∃ P X Y S, l = P ++ X ++ Y ++ S ∧ P.length = a ∧ X.length = m - a ∧ Y.length = b - m ∧
  (∀ x ∈ X, ∃ i, a ≤ i ∧ i < m ∧ x = l.getD i d) ∧ (∀ y ∈ Y, ∃ i, m ≤ i ∧ i < b ∧ y = l.getD i d) := by
 refine ⟨l.take a, (l.drop a).take (m - a), (l.drop m).take (b - m), l.drop b, ?_, by simp; omega, by simp; omega, by simp; omega, ?_, ?_⟩
 ·have e1 : l.take a ++ (l.drop a).take (m - a) = l.take m := by
   have := List.take_add (l := l) (i := a) (j := m - a)
   rw [show a + (m - a) = m by omega] at this
   exact this.symm
  have e2 : l.take m ++ (l.drop m).take (b - m) = l.take b := by
   have := List.take_add (l := l) (i := m) (j := b - m)
   rw [show m + (b - m) = b by omega] at this
   exact this.symm
  rw [e1, e2, List.take_append_drop]
 ·intro x hx
  obtain ⟨i, hi⟩ := List.getElem?_of_mem hx
  have hlt := (List.getElem?_eq_some_iff.1 hi).1
  simp at hlt
  rw [List.getElem?_take_of_lt (by omega), List.getElem?_drop] at hi
  exact ⟨a + i, by omega, by omega, by simp [List.getD_eq_getElem?_getD, hi]⟩
 ·intro x hx
  obtain ⟨i, hi⟩ := List.getElem?_of_mem hx
  have hlt := (List.getElem?_eq_some_iff.1 hi).1
  simp at hlt
  rw [List.getElem?_take_of_lt (by omega), List.getElem?_drop] at hi
  exact ⟨m + i, by omega, by omega, by simp [List.getD_eq_getElem?_getD, hi]⟩
theorem qM {P X Y S : List α} {i : Nat} : (P ++ Y ++ X ++ S).getD i d = (P ++ X ++ Y ++ S).getD (if i < P.length then i else if i < P.length + Y.length then i + X.length else if i < P.length + X.length + Y.length then i - Y.length else i) d := by
 split
 ·rename_i hi
  rw [bH (by simp; omega), bH (by simp; omega), bH hi, bH (by simp; omega), bH (by simp; omega), bH hi]
 ·split
  ·rw [bH (by simp; omega), bH (by simp; omega), cU (by omega), bH (by simp; omega), cU (by simp; omega)]
   congr 1
   simp; omega
  ·split
   ·rw [bH (by simp; omega), cU (by simp; omega), bH (by simp; omega), bH (by simp; omega), cU (by omega)]
    congr 1
    simp; omega
   ·rw [cU (by simp; omega), cU (by simp; omega)]
    congr 1
    simp; omega
theorem zp {P A B C S : List α} {k : Nat} (hA : k < A.length) (hC : C.length = A.length) :
  ((P ++ (C.take k ++ A.drop k) ++ B ++ (A.take k ++ C.drop k) ++ S).set (P.length + k) ((P ++ (C.take k ++ A.drop k) ++ B ++ (A.take k ++ C.drop k) ++ S).getD (P.length + A.length + B.length + k) d)).set (P.length + A.length + B.length + k) ((P ++ (C.take k ++ A.drop k) ++ B ++ (A.take k ++ C.drop k) ++ S).getD (P.length + k) d)
   = P ++ (C.take (k + 1) ++ A.drop (k + 1)) ++ B ++ (A.take (k + 1) ++ C.drop (k + 1)) ++ S := by
 have e1 : (P ++ (C.take k ++ A.drop k) ++ B ++ (A.take k ++ C.drop k) ++ S).getD (P.length + A.length + B.length + k) d = C[k] := by
  rw [bH (by simp; omega), cU (by simp; omega), cU (by simp; omega)]
  simp only [List.getD_eq_getElem?_getD, List.getElem?_drop]
  have : k + (P.length + A.length + B.length + k - (P ++ (C.take k ++ A.drop k) ++ B).length - (A.take k).length) = k := by simp; omega
  rw [this, List.getElem?_eq_getElem (by omega)]; rfl
 have e2 : (P ++ (C.take k ++ A.drop k) ++ B ++ (A.take k ++ C.drop k) ++ S).getD (P.length + k) d = A[k] := by
  rw [bH (by simp; omega), bH (by simp; omega), bH (by simp; omega), cU (by omega), cU (by simp; omega)]
  simp only [List.getD_eq_getElem?_getD, List.getElem?_drop]
  have : k + (P.length + k - P.length - (C.take k).length) = k := by simp; omega
  rw [this, List.getElem?_eq_getElem hA]; rfl
 rw [e1, e2]
 rw [show A.drop k = A[k] :: A.drop (k + 1) from List.drop_eq_getElem_cons hA, show C.drop k = C[k] :: C.drop (k + 1) from List.drop_eq_getElem_cons (by omega)]
 rw [List.take_succ_eq_append_getElem hA, List.take_succ_eq_append_getElem (show k < C.length by omega)]
 have f1 : ∀ (V : List α) (x : α), (P ++ (C.take k ++ A[k] :: A.drop (k + 1)) ++ V).set (P.length + k) x = P ++ (C.take k ++ x :: A.drop (k + 1)) ++ V := by
  intro V x
  rw [List.set_append_left _ _ (by simp; omega), List.set_append_right _ _ (by omega), List.set_append_right _ _ (by simp; omega)]
  congr 3
  have : P.length + k - P.length - (C.take k).length = 0 := by simp; omega
  rw [this]; rfl
 have f2 : ∀ (U : List α) (x : α), U.length = A.length → (P ++ U ++ B ++ (A.take k ++ C[k] :: C.drop (k + 1)) ++ S).set (P.length + A.length + B.length + k) x = P ++ U ++ B ++ (A.take k ++ x :: C.drop (k + 1)) ++ S := by
  intro U x hU
  rw [List.set_append_left _ _ (by simp; omega), List.set_append_right _ _ (by simp; omega), List.set_append_right _ _ (by simp; omega)]
  congr 3
  have : P.length + A.length + B.length + k - (P ++ U ++ B).length - (A.take k).length = 0 := by simp; omega
  rw [this]; rfl
 have g := f1 (B ++ (A.take k ++ C[k] :: C.drop (k + 1)) ++ S) C[k]
 simp only [List.append_assoc] at g f2 ⊢
 rw [g]
 have h := f2 (C.take k ++ C[k] :: A.drop (k + 1)) A[k] (by simp; omega)
 simp only [List.append_assoc] at h
 rw [h]
 simp
theorem Gm {l : List α} {a m b mid s : Nat} (hml : b ≤ l.length) (ham : a < m) (hmb : m < b) (hmid : mid = (a + b) / 2) (h1 : Sd key d l a m) (h2 : Sd key d l m b)
  (hs0 : (if mid < m then mid + m - b else a) ≤ s) (hs1 : s ≤ (if mid < m then mid else m))
  (hy : (if mid < m then mid + m - b else a) < s → key (l.getD (s - 1) d) ≤ key (l.getD (mid + m - 1 - (s - 1)) d))
  (hn : s < (if mid < m then mid else m) → key (l.getD (mid + m - 1 - s) d) < key (l.getD s d)) :
  a ≤ s ∧ s ≤ mid ∧ s ≤ m ∧ m ≤ mid + m - s ∧ mid ≤ mid + m - s ∧ mid + m - s ≤ b ∧
  (s < m → m < mid + m - s → ∀ i j, s ≤ i → i < m → m ≤ j → j < mid + m - s → key (l.getD j d) < key (l.getD i d)) ∧
  (∀ i j, a ≤ i → i < s → mid + m - s ≤ j → j < b → key (l.getD i d) ≤ key (l.getD j d)) := by
 refine ⟨by split at hs0 <;> omega, by split at hs1 <;> omega, by split at hs1 <;> omega, by split at hs1 <;> omega, by split at hs1 <;> omega, by split at hs0 <;> omega, ?_, ?_⟩
 ·intro h3 h4 i j i1 i2 j1 j2
  have hlt : s < (if mid < m then mid else m) := by split <;> omega
  have h5 := hn hlt
  have h6 := h1 s i (by split at hs0 <;> omega) i1 i2
  have h7 := h2 j (mid + m - 1 - s) j1 (by omega) (by split at hs0 <;> omega)
  omega
 ·intro i j i1 i2 j1 j2
  have hlt : (if mid < m then mid + m - b else a) < s := by
   rcases Nat.lt_or_ge (if mid < m then mid + m - b else a) s with h | h
   ·exact h
   ·exfalso; split at h <;> omega
  have h5 := hy hlt
  have h6 := h1 i (s - 1) i1 (by omega) (by split at hs1 <;> omega)
  have h7 := h2 (mid + m - 1 - (s - 1)) j (by split at hs1 <;> omega) (by omega) j2
  omega
theorem unique {l1 l2 : List α} (h1 : Sd key d l1 0 l1.length) (h2 : Sd key d l2 0 l2.length) (h : ∀ c, l1.filter (fun x => decide (key x = c)) = l2.filter (fun x => decide (key x = c))) : l1 = l2 := by
 induction l1 generalizing l2 with
 | nil =>
  cases l2 with
  | nil => rfl
  | cons y l2 => have := h (key y); simp at this
 | cons x l1 ih =>
  cases l2 with
  | nil => have := h (key x); simp at this
  | cons y l2 =>
   have hx : key y ≤ key x := by
    have hm : x ∈ (y :: l2) := by
     have hf : x ∈ (x :: l1).filter (fun z => decide (key z = key x)) := by simp
     rw [h (key x)] at hf
     exact (List.mem_filter.1 hf).1
    obtain ⟨j, hj⟩ := List.getElem?_of_mem hm
    have hlt := (List.getElem?_eq_some_iff.1 hj).1
    have := h2 0 j (Nat.le_refl _) (Nat.zero_le _) hlt
    simpa [List.getD_eq_getElem?_getD, hj] using this
   have hy : key x ≤ key y := by
    have hm : y ∈ (x :: l1) := by
     have hf : y ∈ (y :: l2).filter (fun z => decide (key z = key y)) := by simp
     rw [← h (key y)] at hf
     exact (List.mem_filter.1 hf).1
    obtain ⟨j, hj⟩ := List.getElem?_of_mem hm
    have hlt := (List.getElem?_eq_some_iff.1 hj).1
    have := h1 0 j (Nat.le_refl _) (Nat.zero_le _) hlt
    simpa [List.getD_eq_getElem?_getD, hj] using this
   have hk : key x = key y := by omega
   have hxy : x = y := by
    have := h (key x)
    simp [hk] at this
    exact this.1
   subst hxy
   congr 1
   refine ih (fun i j i1 i2 i3 => ?_) (fun i j i1 i2 i3 => ?_) (fun c => ?_)
   ·have := h1 (i + 1) (j + 1) (by omega) (by omega) (by simp; omega)
    simpa [List.getD_eq_getElem?_getD] using this
   ·have := h2 (i + 1) (j + 1) (by omega) (by omega) (by simp; omega)
    simpa [List.getD_eq_getElem?_getD] using this
   ·have := h c
    simp only [List.filter_cons] at this
    split at this
    ·simpa using this
    ·exact this
end Go.cg
namespace Go.cg
variable {α : Type} {key : α → Int} {d : α}
theorem Rl.pd {Pd : α → Prop} {l l' : List α} {a b n : Nat} (h : Rl key d l l' a b) (hb : b ≤ n) (hp : ∀ i, i < n → Pd (l.getD i d)) : ∀ i, i < n → Pd (l'.getD i d) := fun i hi => by
 by_cases h1 : a ≤ i ∧ i < b
 ·obtain ⟨j, j1, j2, j3⟩ := h.mem i h1.1 h1.2
  rw [j3]; exact hp j (by omega)
 ·rw [h.out i (by omega)]; exact hp i hi
def Ins (key : α → Int) (d : α) (l : List α) (a j i : Nat) : Prop := ∀ x y, a ≤ x → x ≤ y → y ≤ i → y ≠ j → key (l.getD x d) ≤ key (l.getD y d)
theorem Ins.start {l : List α} {a i : Nat} (h : Sd key d l a i) : Ins key d l a i i := fun x y h1 h2 h3 h4 => h x y h1 h2 (by omega)
theorem ke {l : List α} {j k : Nat} (hj : 0 < j) (hl : j < l.length) : ((l.set j (l.getD (j - 1) d)).set (j - 1) (l.getD j d)).getD k d = if k = j then l.getD (j - 1) d else if k = j - 1 then l.getD j d else l.getD k d := by
 by_cases e1 : k = j
 ·subst e1
  rw [if_pos rfl]
  simp only [List.getD_eq_getElem?_getD]
  rw [List.getElem?_set_ne (by omega)]
  simp [hl]
 ·rw [if_neg e1]
  by_cases e2 : k = j - 1
  ·subst e2
   rw [if_pos rfl]
   simp only [List.getD_eq_getElem?_getD]
   simp [show j - 1 < l.length by omega]
  ·rw [if_neg e2]
   simp only [List.getD_eq_getElem?_getD]
   rw [List.getElem?_set_ne (by omega), List.getElem?_set_ne (by omega)]
theorem Ins.step {l : List α} {a j i : Nat} (h : Ins key d l a j i) (h1 : a < j) (h2 : j ≤ i) (hl : j < l.length) (hk : key (l.getD j d) < key (l.getD (j - 1) d)) : Ins key d ((l.set j (l.getD (j - 1) d)).set (j - 1) (l.getD j d)) a (j - 1) i := fun x y x1 x2 x3 x4 => by
 rw [ke (by omega) hl, ke (by omega) hl, if_neg x4]
 by_cases ey : y = j
 ·rw [if_pos ey]
  by_cases ex : x = j
  ·rw [if_pos ex]; exact Int.le_refl _
  ·rw [if_neg ex]
   by_cases ex2 : x = j - 1
   ·rw [if_pos ex2]; omega
   ·rw [if_neg ex2]; exact h x (j - 1) x1 (by omega) (by omega) (by omega)
 ·rw [if_neg ey]
  by_cases ex : x = j
  ·rw [if_pos ex]; exact h (j - 1) y (by omega) (by omega) x3 ey
  ·rw [if_neg ex]
   by_cases ex2 : x = j - 1
   ·rw [if_pos ex2]; exact h j y (by omega) (by omega) x3 ey
   ·rw [if_neg ex2]; exact h x y x1 x2 x3 ey
theorem Rl.II {l : List α} {a b j : Nat} (h1 : a < j) (h2 : j < b) (hl : j < l.length) (hk : key (l.getD j d) < key (l.getD (j - 1) d)) : Rl key d l ((l.set j (l.getD (j - 1) d)).set (j - 1) (l.getD j d)) a b := by
 obtain ⟨i, rfl⟩ : ∃ i, j = i + 1 := ⟨j - 1, by omega⟩
 rw [show i + 1 - 1 = i by omega] at hk ⊢
 rw [swap_comm]
 exact Rl.swap (by omega) h2 hl (by omega)
theorem Rl.T3 {l : List α} {a b j : Nat} (h1 : a ≤ j) (h2 : j + 1 < b) (hl : j + 1 < l.length) (hk : key (l.getD (j + 1) d) ≠ key (l.getD j d)) : Rl key d l ((l.set j (l.getD (j + 1) d)).set (j + 1) (l.getD j d)) a b :=
 Rl.swap h1 h2 hl (fun e => hk e.symm)
theorem Ins.fin {l : List α} {a j i : Nat} (h : Ins key d l a j i) (hj : a ≤ j) (he : j = a ∨ key (l.getD (j - 1) d) ≤ key (l.getD j d)) : Sd key d l a (i + 1) := fun x y h1 h2 h3 => by
 by_cases ey : y = j
 ·subst ey
  by_cases ex : x = y
  ·subst ex; exact Int.le_refl _
  ·rcases he with he | he
   ·omega
   ·exact Int.le_trans (h x (y - 1) h1 (by omega) (by omega) (by omega)) he
 ·exact h x y h1 h2 (by omega) ey
end Go.cg
namespace Go.cg
variable {α : Type} {key : α → Int} {d : α}
theorem SW {l : List α} {m b h : Nat} {k : Int} (hs : Sd key d l m b) (h1 : m ≤ h) (h2 : h < b) (hk : key (l.getD h d) < k) : ∀ x, m ≤ x → x < h + 1 → key (l.getD x d) < k := fun x x1 x2 => by
 have := hs x h x1 (by omega) h2; omega
theorem Ut {l : List α} {m b h : Nat} {k : Int} (hs : Sd key d l m b) (h1 : m ≤ h) (h2 : h < b) (hk : k ≤ key (l.getD h d)) : ∀ x, h ≤ x → x < b → k ≤ key (l.getD x d) := fun x x1 x2 => by
 have := hs h x h1 x1 x2; omega
theorem Ur {l : List α} {m b h : Nat} {k : Int} (hs : Sd key d l m b) (h1 : m ≤ h) (h2 : h < b) (hk : key (l.getD h d) ≤ k) : ∀ x, m ≤ x → x < h + 1 → key (l.getD x d) ≤ k := fun x x1 x2 => by
 have := hs x h x1 (by omega) h2; omega
theorem S0 {l : List α} {m b h : Nat} {k : Int} (hs : Sd key d l m b) (h1 : m ≤ h) (h2 : h < b) (hk : k < key (l.getD h d)) : ∀ x, h ≤ x → x < b → k < key (l.getD x d) := fun x x1 x2 => by
 have := hs h x h1 x1 x2; omega
structure Mv (key : α → Int) (d : α) (l l2 : List α) (a b k : Nat) : Prop where
 rl : Rl key d l l2 a b
 at_ : l2.getD k d = l.getD a d
 lo : ∀ x, a ≤ x → x < k → l2.getD x d = l.getD (x + 1) d
 hi : ∀ x, k < x → l2.getD x d = l.getD x d
theorem Mv.start (l : List α) (a b : Nat) : Mv key d l l a b a := ⟨Rl.refl _ _ _, rfl, fun x h1 h2 => by omega, fun _ _ => rfl⟩
theorem qc {l : List α} {j k : Nat} (hl : j + 1 < l.length) : ((l.set j (l.getD (j + 1) d)).set (j + 1) (l.getD j d)).getD k d = if k = j then l.getD (j + 1) d else if k = j + 1 then l.getD j d else l.getD k d := by
 have := ke (d := d) (l := l) (j := j + 1) (k := k) (by omega) hl
 rw [show j + 1 - 1 = j by omega] at this
 rw [swap_comm] at this
 rw [this]
 by_cases e1 : k = j
 ·rw [if_neg (by omega), if_pos e1, if_pos e1]
 ·by_cases e2 : k = j + 1
  ·rw [if_pos e2, if_neg e1, if_pos e2]
  ·rw [if_neg e2, if_neg e1, if_neg e1, if_neg e2]
theorem Mv.step {l l2 : List α} {a b k : Nat} (h : Mv key d l l2 a b k) (h1 : a ≤ k) (h2 : k + 1 < b) (hl : b ≤ l.length) (hk : key (l.getD (k + 1) d) < key (l.getD a d)) : Mv key d l ((l2.set k (l2.getD (k + 1) d)).set (k + 1) (l2.getD k d)) a b (k + 1) := by
 have hlen := h.rl.len
 refine ⟨h.rl.trans (Rl.T3 h1 h2 (by omega) (by rw [h.at_, h.hi _ (by omega)]; omega)), ?_, fun x x1 x2 => ?_, fun x x1 => ?_⟩
 ·rw [qc (by omega), if_neg (by omega), if_pos rfl, h.at_]
 ·rw [qc (by omega)]
  by_cases e : x = k
  ·subst e; rw [if_pos rfl, h.hi _ (by omega)]
  ·rw [if_neg e, if_neg (by omega), h.lo x x1 (by omega)]
 ·rw [qc (by omega), if_neg (by omega), if_neg (by omega), h.hi x (by omega)]
theorem Mv.fin {l l2 : List α} {a b i : Nat} (h : Mv key d l l2 a b (i - 1)) (ha : a + 1 ≤ i) (hi : i ≤ b) (hs : Sd key d l (a + 1) b) (hlo : ∀ x, a + 1 ≤ x → x < i → key (l.getD x d) < key (l.getD a d)) (hhi : ∀ x, i ≤ x → x < b → key (l.getD a d) ≤ key (l.getD x d)) : Sd key d l2 a b := by
 have get : ∀ x, a ≤ x → l2.getD x d = if x < i - 1 then l.getD (x + 1) d else if x = i - 1 then l.getD a d else l.getD x d := by
  intro x hx
  by_cases e1 : x < i - 1
  ·rw [if_pos e1, h.lo x hx e1]
  ·rw [if_neg e1]
   by_cases e2 : x = i - 1
   ·rw [if_pos e2, e2, h.at_]
   ·rw [if_neg e2, h.hi x (by omega)]
 intro x y x1 x2 x3
 rw [get x x1, get y (by omega)]
 by_cases e1 : x < i - 1
 ·rw [if_pos e1]
  by_cases f1 : y < i - 1
  ·rw [if_pos f1]; exact hs _ _ (by omega) (by omega) (by omega)
  ·rw [if_neg f1]
   by_cases f2 : y = i - 1
   ·rw [if_pos f2]; have := hlo (x + 1) (by omega) (by omega); omega
   ·rw [if_neg f2]; exact hs _ _ (by omega) (by omega) (by omega)
 ·rw [if_neg e1]
  by_cases e2 : x = i - 1
  ·rw [if_pos e2, if_neg (by omega)]
   by_cases f2 : y = i - 1
   ·rw [if_pos f2]; exact Int.le_refl _
   ·rw [if_neg f2]; exact hhi y (by omega) x3
  ·rw [if_neg e2, if_neg (by omega), if_neg (by omega)]; exact hs _ _ (by omega) x2 x3
structure Mw (key : α → Int) (d : α) (l l2 : List α) (a b m k : Nat) : Prop where
 rl : Rl key d l l2 a b
 at_ : l2.getD k d = l.getD m d
 hi : ∀ x, k < x → x ≤ m → l2.getD x d = l.getD (x - 1) d
 lo : ∀ x, x < k → l2.getD x d = l.getD x d
 up : ∀ x, m < x → l2.getD x d = l.getD x d
theorem Mw.start (l : List α) (a b m : Nat) : Mw key d l l a b m m := ⟨Rl.refl _ _ _, rfl, fun x h1 h2 => by omega, fun _ _ => rfl, fun _ _ => rfl⟩
theorem Mw.step {l l2 : List α} {a b m k : Nat} (h : Mw key d l l2 a b m k) (h0 : a < k) (h1 : k ≤ m) (h2 : m < b) (hl : b ≤ l.length) (hk : key (l.getD m d) < key (l.getD (k - 1) d)) : Mw key d l ((l2.set k (l2.getD (k - 1) d)).set (k - 1) (l2.getD k d)) a b m (k - 1) := by
 have hlen := h.rl.len
 refine ⟨h.rl.trans (Rl.II h0 (by omega) (by omega) (by rw [h.at_, h.lo _ (by omega)]; exact hk)), ?_, fun x x1 x2 => ?_, fun x x1 => ?_, fun x x1 => ?_⟩
 ·rw [ke (by omega) (by omega), if_neg (by omega), if_pos rfl, h.at_]
 ·rw [ke (by omega) (by omega)]
  by_cases e : x = k
  ·subst e; rw [if_pos rfl, h.lo _ (by omega)]
  ·rw [if_neg e, if_neg (by omega), h.hi x (by omega) x2]
 ·rw [ke (by omega) (by omega), if_neg (by omega), if_neg (by omega), h.lo x (by omega)]
 ·rw [ke (by omega) (by omega), if_neg (by omega), if_neg (by omega), h.up x x1]
theorem Mw.fin {l l2 : List α} {a b i : Nat} {m : Nat} (h : Mw key d l l2 a b m i) (ha : a ≤ i) (hi : i ≤ m) (hb : b = m + 1) (hs : Sd key d l a m) (hlo : ∀ x, a ≤ x → x < i → key (l.getD x d) ≤ key (l.getD m d)) (hhi : ∀ x, i ≤ x → x < m → key (l.getD m d) < key (l.getD x d)) : Sd key d l2 a b := by
 have get : ∀ x, x ≤ m → l2.getD x d = if x < i then l.getD x d else if x = i then l.getD m d else l.getD (x - 1) d := by
  intro x hx
  by_cases e1 : x < i
  ·rw [if_pos e1, h.lo x e1]
  ·rw [if_neg e1]
   by_cases e2 : x = i
   ·rw [if_pos e2, e2, h.at_]
   ·rw [if_neg e2, h.hi x (by omega) hx]
 intro x y x1 x2 x3
 rw [get x (by omega), get y (by omega)]
 by_cases e1 : x < i
 ·rw [if_pos e1]
  by_cases f1 : y < i
  ·rw [if_pos f1]; exact hs _ _ x1 x2 (by omega)
  ·rw [if_neg f1]
   by_cases f2 : y = i
   ·rw [if_pos f2]; exact hlo x x1 e1
   ·rw [if_neg f2]; exact hs _ _ x1 (by omega) (by omega)
 ·rw [if_neg e1]
  by_cases e2 : x = i
  ·rw [if_pos e2, if_neg (show ¬ y < i by omega)]
   by_cases f2 : y = i
   ·rw [if_pos f2]; exact Int.le_refl _
   ·rw [if_neg f2]; have := hhi (y - 1) (by omega) (by omega); omega
  ·rw [if_neg e2, if_neg (show ¬ y < i by omega), if_neg (show ¬ y = i by omega)]; exact hs _ _ (by omega) (by omega) (by omega)
structure mB (key : α → Int) (d : α) (l l1 : List α) (a s mid e b : Nat) : Prop where
 rl : Rl key d l l1 a b
 s1 : Sd key d l1 a s
 s2 : Sd key d l1 s mid
 s3 : Sd key d l1 mid e
 s4 : Sd key d l1 e b
 cr : ∀ i j, a ≤ i → i < mid → mid ≤ j → j < b → key (l1.getD i d) ≤ key (l1.getD j d)
theorem mB.stay {l : List α} {a m b mid s : Nat} (h1 : Sd key d l a m) (h2 : Sd key d l m b) (hs : a ≤ s ∧ s ≤ mid ∧ s ≤ m ∧ m ≤ mid + m - s ∧ mid ≤ mid + m - s ∧ mid + m - s ≤ b)
  (hc : ∀ i j, a ≤ i → i < s → mid + m - s ≤ j → j < b → key (l.getD i d) ≤ key (l.getD j d)) (hn : ¬ (s < m ∧ m < mid + m - s)) : mB key d l l a s mid (mid + m - s) b := by
 obtain ⟨e1, e2, e3, e4, e5, e6⟩ := hs
 by_cases hm : s = m
 ·subst hm
  have he : mid + s - s = mid := by omega
  rw [he] at hc ⊢
  refine ⟨Rl.refl _ _ _, h1, h2.sub (Nat.le_refl _) (by omega), Sd.small (by omega), h2.sub e2 (Nat.le_refl _), fun i j i1 i2 j1 j2 => ?_⟩
  by_cases hi : i < s
  ·exact hc i j i1 hi j1 j2
  ·exact h2 i j (by omega) (by omega) j2
 ·have hs2 : s = mid := by omega
  subst hs2
  have he : s + m - s = m := by omega
  rw [he] at hc ⊢
  refine ⟨Rl.refl _ _ _, h1.sub (Nat.le_refl _) (by omega), Sd.small (by omega), h1.sub e1 (Nat.le_refl _), h2, fun i j i1 i2 j1 j2 => ?_⟩
  by_cases hj : j < m
  ·exact h1 i j i1 (by omega) hj
  ·exact hc i j i1 i2 (by omega) j2
theorem mB.YG {P X Y Z : List α} {a m b mid s : Nat} (hP : P.length = s) (hX : X.length = m - s) (hY : Y.length = mid + m - s - m) (h1 : Sd key d (P ++ X ++ Y ++ Z) a m) (h2 : Sd key d (P ++ X ++ Y ++ Z) m b) (hs : a ≤ s ∧ s ≤ mid ∧ s ≤ m ∧ m ≤ mid + m - s ∧ mid ≤ mid + m - s ∧ mid + m - s ≤ b)
  (hlt : ∀ i j, s ≤ i → i < m → m ≤ j → j < mid + m - s → key ((P ++ X ++ Y ++ Z).getD j d) < key ((P ++ X ++ Y ++ Z).getD i d))
  (hc : ∀ i j, a ≤ i → i < s → mid + m - s ≤ j → j < b → key ((P ++ X ++ Y ++ Z).getD i d) ≤ key ((P ++ X ++ Y ++ Z).getD j d))
  (hXm : ∀ x ∈ X, ∃ i, s ≤ i ∧ i < m ∧ x = (P ++ X ++ Y ++ Z).getD i d) (hYm : ∀ y ∈ Y, ∃ i, m ≤ i ∧ i < mid + m - s ∧ y = (P ++ X ++ Y ++ Z).getD i d) :
  mB key d (P ++ X ++ Y ++ Z) (P ++ Y ++ X ++ Z) a s mid (mid + m - s) b := by
 obtain ⟨e1, e2, e3, e4, e5, e6⟩ := hs
 have hr : Rl key d (P ++ X ++ Y ++ Z) (P ++ Y ++ X ++ Z) a b := Rl.rotate (by omega) (by omega) (fun x hx y hy => by
  obtain ⟨i, i1, i2, rfl⟩ := hXm x hx
  obtain ⟨j, j1, j2, rfl⟩ := hYm y hy
  have := hlt i j i1 i2 j1 j2
  omega)
 have g1 : ∀ i, i < s → (P ++ Y ++ X ++ Z).getD i d = (P ++ X ++ Y ++ Z).getD i d := fun i hi => by rw [qM, if_pos (by omega)]
 have g2 : ∀ i, s ≤ i → i < mid → (P ++ Y ++ X ++ Z).getD i d = (P ++ X ++ Y ++ Z).getD (i + (m - s)) d := fun i i1 i2 => by rw [qM, if_neg (by omega), if_pos (by omega), hX]
 have g3 : ∀ i, mid ≤ i → i < mid + m - s → (P ++ Y ++ X ++ Z).getD i d = (P ++ X ++ Y ++ Z).getD (i - (mid + m - s - m)) d := fun i i1 i2 => by rw [qM, if_neg (by omega), if_neg (by omega), if_pos (by omega), hY]
 have g4 : ∀ i, mid + m - s ≤ i → (P ++ Y ++ X ++ Z).getD i d = (P ++ X ++ Y ++ Z).getD i d := fun i hi => by rw [qM, if_neg (by omega), if_neg (by omega), if_neg (by omega)]
 refine ⟨hr, fun i j i1 i2 i3 => ?_, fun i j i1 i2 i3 => ?_, fun i j i1 i2 i3 => ?_, fun i j i1 i2 i3 => ?_, fun i j i1 i2 j1 j2 => ?_⟩
 ·rw [g1 i (by omega), g1 j (by omega)]; exact h1 i j i1 i2 (by omega)
 ·rw [g2 i i1 (by omega), g2 j (by omega) i3]; exact h2 _ _ (by omega) (by omega) (by omega)
 ·rw [g3 i i1 (by omega), g3 j (by omega) i3]; exact h1 _ _ (by omega) (by omega) (by omega)
 ·rw [g4 i i1, g4 j (by omega)]; exact h2 _ _ (by omega) i2 i3
 ·by_cases hi : i < s
  ·rw [g1 i hi]
   by_cases hj : j < mid + m - s
   ·rw [g3 j j1 hj]; exact h1 _ _ i1 (by omega) (by omega)
   ·rw [g4 j (by omega)]; exact hc i j i1 hi (by omega) j2
  ·rw [g2 i (by omega) i2]
   by_cases hj : j < mid + m - s
   ·rw [g3 j j1 hj]
    have := hlt (j - (mid + m - s - m)) (i + (m - s)) (by omega) (by omega) (by omega) (by omega)
    omega
   ·rw [g4 j (by omega)]; exact h2 _ _ (by omega) (by omega) j2
theorem nY {l1 l2 : List α} {a mid b : Nat} (h : ∀ i j, a ≤ i → i < mid → mid ≤ j → j < b → key (l1.getD i d) ≤ key (l1.getD j d)) (hr : Rl key d l1 l2 a mid) : ∀ i j, a ≤ i → i < mid → mid ≤ j → j < b → key (l2.getD i d) ≤ key (l2.getD j d) := fun i j i1 i2 j1 j2 => by
 obtain ⟨k, k1, k2, e⟩ := hr.mem i i1 i2
 rw [e, hr.out j (by omega)]
 exact h k j k1 k2 j1 j2
theorem zn {l1 l2 : List α} {a mid b : Nat} (h : ∀ i j, a ≤ i → i < mid → mid ≤ j → j < b → key (l1.getD i d) ≤ key (l1.getD j d)) (hr : Rl key d l1 l2 mid b) : ∀ i j, a ≤ i → i < mid → mid ≤ j → j < b → key (l2.getD i d) ≤ key (l2.getD j d) := fun i j i1 i2 j1 j2 => by
 obtain ⟨k, k1, k2, e⟩ := hr.mem j j1 j2
 rw [e, hr.out i (by omega)]
 exact h i k i1 i2 k1 k2
theorem SK {l : List α} {a m b mid h st0 r0 : Nat} (ham : a < m) (hmb : m < b) (hmid : mid = (a + b) / 2) (h1 : Sd key d l a m) (h2 : Sd key d l m b) (e0 : st0 = if mid < m then mid + m - b else a) (e1 : r0 = if mid < m then mid else m) (i1 : st0 ≤ h) (i2 : h < r0)
  (hk : key (l.getD h d) ≤ key (l.getD (mid + m - 1 - h) d)) : ∀ x, st0 ≤ x → x < h + 1 → key (l.getD x d) ≤ key (l.getD (mid + m - 1 - x) d) := fun x x1 x2 => by
 have f1 := h1 x h (by split at e0 <;> omega) (by omega) (by split at e1 <;> omega)
 have f2 := h2 (mid + m - 1 - h) (mid + m - 1 - x) (by split at e1 <;> omega) (by omega) (by split at e0 <;> omega)
 omega
theorem R9 {l : List α} {a m b mid h st0 r0 : Nat} (ham : a < m) (hmb : m < b) (hmid : mid = (a + b) / 2) (h1 : Sd key d l a m) (h2 : Sd key d l m b) (e0 : st0 = if mid < m then mid + m - b else a) (e1 : r0 = if mid < m then mid else m) (i1 : st0 ≤ h) (i2 : h < r0)
  (hk : key (l.getD (mid + m - 1 - h) d) < key (l.getD h d)) : ∀ x, h ≤ x → x < r0 → key (l.getD (mid + m - 1 - x) d) < key (l.getD x d) := fun x x1 x2 => by
 have f1 := h1 h x (by split at e0 <;> omega) (by omega) (by split at e1 <;> omega)
 have f2 := h2 (mid + m - 1 - x) (mid + m - 1 - h) (by split at e1 <;> omega) (by omega) (by split at e0 <;> omega)
 omega
end Go.cg
namespace Go.cg
variable {α : Type} {key : α → Int} {d : α}
theorem uj {b x A : Nat} (h1 : b ∣ x) (h2 : b ∣ A) (h : x ≤ A) : x = A ∨ x + b ≤ A := by
 obtain ⟨u, rfl⟩ := h1
 obtain ⟨v, rfl⟩ := h2
 rcases Nat.eq_zero_or_pos b with hb | hb
 ·subst hb; left; simp
 ·have huv : u ≤ v := Nat.le_of_mul_le_mul_left h hb
  rcases Nat.lt_or_ge u v with h3 | h3
  ·right
   have := Nat.mul_le_mul_left b h3
   rw [Nat.mul_succ] at this
   exact this
  ·left; congr 1; omega
def Bk (key : α → Int) (d : α) (l : List α) (s n : Nat) : Prop := ∀ x, s ∣ x → Sd key d l x (min (x + s) n)
def Bd (key : α → Int) (d : α) (l : List α) (s A : Nat) : Prop := ∀ x, s ∣ x → x + s ≤ A → Sd key d l x (x + s)
theorem Bd.zero (l : List α) (s : Nat) (hs : 0 < s) : Bd key d l s 0 := fun x _ h => by omega
theorem Bd.step {l l2 : List α} {s A : Nat} (h : Bd key d l s A) (hA : s ∣ A) (hr : Rl key d l l2 A (s + A)) (h2 : Sd key d l2 A (s + A)) : Bd key d l2 s (s + A) := fun x hx hle => by
 rcases uj hx hA (by omega) with e | e
 ·subst e; exact h2.sub (Nat.le_refl _) (by omega)
 ·exact (h x hx e).congr (fun i i1 i2 => hr.out i (by omega))
theorem Bd.fin {l l2 : List α} {s A n : Nat} (h : Bd key d l s A) (hA : s ∣ A) (hAn : A ≤ n) (hn : n < s + A) (hr : Rl key d l l2 A n) (h2 : Sd key d l2 A n) : Bk key d l2 s n := fun x hx => by
 rcases Nat.lt_or_ge A x with h3 | h3
 ·rcases uj hA hx (Nat.le_of_lt h3) with e | e
  ·omega
  ·exact Sd.small (by omega)
 ·rcases uj hx hA h3 with e | e
  ·subst e; exact h2.sub (Nat.le_refl _) (by omega)
  ·rw [Nat.min_eq_left (by omega)]
   exact (h x hx e).congr (fun i i1 i2 => hr.out i (by omega))
def Br (key : α → Int) (d : α) (l : List α) (s n A : Nat) : Prop := ∀ x, s ∣ x → A ≤ x → Sd key d l x (min (x + s) n)
theorem Bk.br {l : List α} {s n : Nat} (h : Bk key d l s n) : Br key d l s n 0 := fun x hx _ => h x hx
theorem Br.step {l l2 : List α} {s n A B : Nat} (h : Br key d l s n A) (hAB : A ≤ B) (hr : Rl key d l l2 A B) : Br key d l2 s n B := fun x hx hle => (h x hx (by omega)).congr (fun i i1 i2 => hr.out i (by omega))
theorem nc {s A : Nat} (h : 2 * s ∣ A) : s ∣ A := Nat.dvd_trans ⟨2, by rw [Nat.mul_comm]⟩ h
theorem Br.two {l : List α} {s n A : Nat} (h : Br key d l s n A) (hA : 2 * s ∣ A) (hn : 2 * s + A ≤ n) : Sd key d l A (A + s) ∧ Sd key d l (A + s) (2 * s + A) := by
 have h1 := h A (nc hA) (Nat.le_refl _)
 have h2 := h (A + s) (Nat.dvd_add (nc hA) (Nat.dvd_refl _)) (by omega)
 rw [Nat.min_eq_left (by omega)] at h1
 rw [Nat.min_eq_left (by omega)] at h2
 exact ⟨h1, h2.sub (Nat.le_refl _) (by omega)⟩
theorem Br.last {l : List α} {s n A : Nat} (h : Br key d l s n A) (hA : 2 * s ∣ A) (hn : n < 2 * s + A) (hm : A + s < n) : Sd key d l A (A + s) ∧ Sd key d l (A + s) n := by
 have h1 := h A (nc hA) (Nat.le_refl _)
 have h2 := h (A + s) (Nat.dvd_add (nc hA) (Nat.dvd_refl _)) (by omega)
 rw [Nat.min_eq_left (by omega)] at h1
 rw [Nat.min_eq_right (by omega)] at h2
 exact ⟨h1, h2⟩
theorem Br.one {l : List α} {s n A : Nat} (h : Br key d l s n A) (hA : 2 * s ∣ A) (hm : n ≤ A + s) : Sd key d l A n := by
 have h1 := h A (nc hA) (Nat.le_refl _)
 rwa [Nat.min_eq_right (by omega)] at h1
theorem Bk.all {l : List α} {s n : Nat} (h : Bk key d l s n) (hn : n ≤ s) : Sd key d l 0 n := by
 have := h 0 (Nat.dvd_zero _)
 rwa [Nat.min_eq_right (by omega)] at this
end Go.cg
namespace Go.ae
def cls (ls : List Int) (n : Nat) : List Int := ((List.range ls.length).filter (fun i => decide (ls.getD i 0 = (n : Int)))).map (fun i : Nat => (i : Int))
def fp (ls : List Int) : Nat → List Int
 | 0 => []
 | n + 1 => fp ls n ++ cls ls (n + 1)
def ord (ls : List Int) : List Int := fp ls 15
def off (ls : List Int) : Nat → Nat
 | 0 => 0
 | n + 1 => (fp ls n).length
def cnt (ls : List Int) (n : Nat) : Int := if n = 0 then 0 else ((cls ls n).length : Int)
def bJ (ls : List Int) : List Int := (List.range 16).map (cnt ls)
def base (ls : List Int) : Nat → Int
 | 0 => 0
 | n + 1 => 2 * (base ls n + cnt ls n)
def lenOf (ls : List Int) (s : Nat) : Nat := (ls.getD s 0).toNat
def eU (ls : List Int) (s : Nat) : Int := base ls (lenOf ls s) + ((cls (ls.take s) (lenOf ls s)).length : Int)
def Vl (ls : List Int) : Prop := ls.length ≤ 320 ∧ ∀ x ∈ ls, 0 ≤ x ∧ x ≤ 15
theorem jl (ls : List Int) : (bJ ls).length = 16 := by simp [bJ]
theorem n8 {ls : List Int} {n : Nat} (h : n < 16) : (bJ ls).getD n 0 = cnt ls n := by simp [bJ, List.getD_eq_getElem?_getD, h]
theorem Co (ls : List Int) (n : Nat) : (cls ls n).length ≤ ls.length := by
 unfold cls
 have := List.length_filter_le (fun i => decide (ls.getD i 0 = (n : Int))) (List.range ls.length)
 simpa using this
theorem gO (ls : List Int) (n : Nat) : 0 ≤ cnt ls n := by unfold cnt; split <;> omega
theorem SI (ls : List Int) (n : Nat) : cnt ls n ≤ ls.length := by
 have := Co ls n
 unfold cnt; split <;> omega
theorem getD_take {ls : List Int} {i k : Nat} (h : i < k) : (ls.take k).getD i 0 = ls.getD i 0 := by
 simp [List.getD_eq_getElem?_getD, List.getElem?_take, h]
theorem rM {ls : List Int} {k n : Nat} (h : k < ls.length) : cls (ls.take (k + 1)) n = cls (ls.take k) n ++ (if ls[k] = (n : Int) then [(k : Int)] else []) := by
 unfold cls
 have e1 : (ls.take (k + 1)).length = k + 1 := by simp; omega
 have e2 : (ls.take k).length = k := by simp; omega
 rw [e1, e2, List.range_succ, List.filter_append, List.map_append]
 congr 1
 ·congr 1
  apply List.filter_congr
  intro i hi
  have hi := List.mem_range.1 hi
  rw [getD_take (by omega), getD_take hi]
 ·have : (ls.take (k + 1)).getD k 0 = ls[k] := by rw [getD_take (by omega)]; simp [List.getD_eq_getElem?_getD, h]
  by_cases he : ls[k] = (n : Int)
  ·simp only [List.filter_cons, List.filter_nil, this, he, decide_true, decide_false, if_true, if_false, List.map_cons, List.map_nil]; try rfl
  ·simp only [List.filter_cons, List.filter_nil, this, he, decide_true, decide_false, if_true, if_false, List.map_cons, List.map_nil]; try rfl
theorem G4 (n : Nat) : cls [] n = [] := by simp [cls]
theorem sv {ls : List Int} {k n : Nat} (h : k < ls.length) : cnt (ls.take (k + 1)) n = cnt (ls.take k) n + (if n ≠ 0 ∧ ls[k] = (n : Int) then 1 else 0) := by
 unfold cnt
 by_cases h0 : n = 0
 ·simp [h0]
 ·rw [if_neg h0, if_neg h0, rM h]
  by_cases he : ls[k] = (n : Int)
  ·simp [he, h0]
  ·simp [he]
theorem Fg {ls : List Int} {k : Nat} (h : k < ls.length) (h1 : 0 < ls[k]) (h2 : ls[k] ≤ 15) : bJ (ls.take (k + 1)) = (bJ (ls.take k)).set ls[k].toNat ((bJ (ls.take k)).getD ls[k].toNat 0 + 1) := by
 apply List.ext_getElem?
 intro i
 by_cases hi : i < 16
 ·rw [List.getElem?_set]
  by_cases he : ls[k].toNat = i
  ·rw [if_pos he, if_pos (by rw [jl]; omega), he, n8 hi]
   simp only [bJ, List.getElem?_map, List.getElem?_range hi, Option.map_some]
   rw [sv h, if_pos ⟨by omega, by omega⟩]
  ·rw [if_neg he]
   simp only [bJ, List.getElem?_map, List.getElem?_range hi, Option.map_some]
   rw [sv h, if_neg (fun hh => he (by omega))]
   simp
 ·rw [List.getElem?_eq_none (by rw [jl]; omega), List.getElem?_eq_none (by rw [List.length_set, jl]; omega)]
theorem D0 {ls : List Int} {k : Nat} (h : k < ls.length) (h1 : ls[k] = 0) : bJ (ls.take (k + 1)) = bJ (ls.take k) := by
 unfold bJ
 apply List.map_congr_left
 intro i _
 rw [sv h, if_neg (fun hh => hh.1 (by omega))]
 simp
theorem Hs : bJ [] = List.replicate 16 0 := by
 have : cnt [] = fun _ => 0 := by funext n; simp [cnt, G4]
 unfold bJ
 rw [this]
 rfl
def cC (ls : List Int) : List Int := ((List.range ls.length).filter (fun i => decide (0 < ls.getD i 0))).map (fun i : Nat => (i : Int))
theorem px {ls : List Int} {k : Nat} (h : k < ls.length) : cC (ls.take (k + 1)) = cC (ls.take k) ++ (if 0 < ls[k] then [(k : Int)] else []) := by
 unfold cC
 have e1 : (ls.take (k + 1)).length = k + 1 := by simp; omega
 have e2 : (ls.take k).length = k := by simp; omega
 rw [e1, e2, List.range_succ, List.filter_append, List.map_append]
 congr 1
 ·congr 1
  apply List.filter_congr
  intro i hi
  have hi := List.mem_range.1 hi
  rw [getD_take (by omega), getD_take hi]
 ·have : (ls.take (k + 1)).getD k 0 = ls[k] := by rw [getD_take (by omega)]; simp [List.getD_eq_getElem?_getD, h]
  by_cases he : 0 < ls[k]
  ·simp only [List.filter_cons, List.filter_nil, this, he, decide_true, decide_false, if_true, if_false, List.map_cons, List.map_nil]; try rfl
  ·simp only [List.filter_cons, List.filter_nil, this, he, decide_true, decide_false, if_true, if_false, List.map_cons, List.map_nil]; try rfl
theorem uP (ls : List Int) : (cC ls).length ≤ ls.length := by
 unfold cC
 have := List.length_filter_le (fun i => decide (0 < ls.getD i 0)) (List.range ls.length)
 simpa using this
def left (C : List Int) : Nat → Int
 | 0 => 1
 | n + 1 => 2 * left C n - C.getD (n + 1) 0
def fM (C : List Int) (all : Int) : Bool := (List.range 15).all (fun n => decide (0 ≤ left C (n + 1))) && (decide (left C 15 = 0) || decide (all = 0) || (decide (all = 1) && decide (C.getD 1 0 = 1)))
theorem Ag {C : List Int} (hC : ∀ i, 0 ≤ C.getD i 0) : ∀ n, left C n ≤ 2 ^ n
 | 0 => by simp [left]
 | n + 1 => by
  have h := Ag hC n
  have := hC (n + 1)
  simp only [left]
  rw [Int.pow_succ]
  omega
theorem CE {C : List Int} (hC : ∀ i, 0 ≤ C.getD i 0) {n : Nat} (hn : n ≤ 15) : left C n ≤ 32768 := by
 refine Int.le_trans (Ag hC n) ?_
 have : (2 : Nat) ^ n ≤ 2 ^ 15 := Nat.pow_le_pow_right (by decide) hn
 have e : ((2 : Int) ^ n) = ((2 ^ n : Nat) : Int) := by simp
 rw [e]
 omega
theorem zd {C : List Int} {all : Int} {n : Nat} (h1 : 1 ≤ n) (h2 : n ≤ 15) (h : left C n < 0) : fM C all = false := by
 unfold fM
 have : (List.range 15).all (fun n => decide (0 ≤ left C (n + 1))) = false := by
  rw [List.all_eq_false]
  exact ⟨n - 1, List.mem_range.2 (by omega), by rw [show n - 1 + 1 = n by omega]; simpa using h⟩
 rw [this]; rfl
theorem DS {C : List Int} {all : Int} (h : ∀ n, 1 ≤ n → n ≤ 15 → 0 ≤ left C n) : fM C all = (decide (left C 15 = 0) || decide (all = 0) || (decide (all = 1) && decide (C.getD 1 0 = 1))) := by
 unfold fM
 have : (List.range 15).all (fun n => decide (0 ≤ left C (n + 1))) = true := by
  rw [List.all_eq_true]
  intro x hx
  have := List.mem_range.1 hx
  simpa using h (x + 1) (by omega) (by omega)
 rw [this]; rfl
theorem L9 {C : List Int} {k : Nat} (hno : ∀ m, 1 ≤ m → m ≤ k → 0 ≤ left C m) : 0 ≤ left C k := by
 rcases Nat.eq_zero_or_pos k with e | e
 ·subst e; simp [left]
 ·exact hno k e (Nat.le_refl _)
theorem ph {C : List Int} {k : Nat} : 2 * left C k - C.getD ((k : Int) + 1).toNat 0 = left C (k + 1) := by
 rw [show ((k : Int) + 1).toNat = k + 1 by omega]; rfl
theorem DE {C : List Int} {k : Nat} (hno : ∀ m, 1 ≤ m → m ≤ k → 0 ≤ left C m) (h : ¬ 2 * left C k - C.getD ((k : Int) + 1).toNat 0 < 0) : ∀ m, 1 ≤ m → m ≤ k + 1 → 0 ≤ left C m := by
 intro m h1 h2
 rcases Nat.lt_or_ge m (k + 1) with h3 | h3
 ·exact hno m h1 (by omega)
 ·obtain rfl : m = k + 1 := by omega
  rw [ph] at h
  omega
theorem mQ {C : List Int} {all : Int} {k : Nat} (hk : k ≤ 15) (h8 : ¬ ((k : Int) + 1 ≤ 15)) (hno : ∀ m, 1 ≤ m → m ≤ k → 0 ≤ left C m) : fM C all = (decide (left C k = 0) || decide (all = 0) || (decide (all = 1) && decide (C.getD (Int.toNat 1) 0 = 1))) := by
 obtain rfl : k = 15 := by omega
 exact DS hno
def okB (ls : List Int) : Bool := ls.all (fun x => decide (0 ≤ x ∧ x ≤ 15))
def a8 (ls : List Int) : Int := if 320 < ls.length then 1 else if okB ls = true then (if fM (bJ ls) ((cC ls).length : Int) = true then 0 else 4) else 1
def bX (ls : List Int) : Int := ls.foldl (fun a x => if a < x then x else a) 0
theorem ko {ls : List Int} {n : Nat} {x : Int} : x ∈ cls ls n ↔ 0 ≤ x ∧ x.toNat < ls.length ∧ ls.getD x.toNat 0 = (n : Int) := by
 unfold cls
 simp only [List.mem_map, List.mem_filter, List.mem_range, decide_eq_true_eq]
 constructor
 ·rintro ⟨i, ⟨h1, h2⟩, rfl⟩
  exact ⟨by omega, by simpa using h1, by simpa using h2⟩
 ·rintro ⟨h1, h2, h3⟩
  exact ⟨x.toNat, ⟨h2, h3⟩, by omega⟩
theorem rU {ls : List Int} {x : Int} : ∀ {n : Nat}, x ∈ fp ls n ↔ ∃ m, 1 ≤ m ∧ m ≤ n ∧ x ∈ cls ls m
 | 0 => by simp [fp]; omega
 | n + 1 => by
  simp only [fp, List.mem_append, rU (n := n)]
  constructor
  ·rintro (⟨m, h1, h2, h3⟩ | h)
   ·exact ⟨m, h1, by omega, h3⟩
   ·exact ⟨n + 1, by omega, Nat.le_refl _, h⟩
  ·rintro ⟨m, h1, h2, h3⟩
   by_cases e : m = n + 1
   ·subst e; exact .inr h3
   ·exact .inl ⟨m, h1, by omega, h3⟩
theorem uL {ls : List Int} (hv : Vl ls) {x : Int} : x ∈ ord ls ↔ 0 ≤ x ∧ x.toNat < ls.length ∧ 0 < ls.getD x.toNat 0 := by
 unfold ord
 rw [rU]
 constructor
 ·rintro ⟨m, h1, h2, h3⟩
  obtain ⟨a, b, c⟩ := ko.1 h3
  exact ⟨a, b, by omega⟩
 ·rintro ⟨h1, h2, h3⟩
  have h4 := hv.2 (ls.getD x.toNat 0) (by simp [List.getD_eq_getElem?_getD, h2])
  refine ⟨(ls.getD x.toNat 0).toNat, by omega, by omega, ko.2 ⟨h1, h2, by omega⟩⟩
theorem ma (ls : List Int) {n : Nat} (h : 1 ≤ n) : off ls (n + 1) = off ls n + (cls ls n).length := by
 obtain ⟨m, rfl⟩ : ∃ m, n = m + 1 := ⟨n - 1, by omega⟩
 simp [off, fp]
theorem qE (ls : List Int) (n : Nat) : (off ls (n + 1) : Int) = off ls n + cnt ls n := by
 rcases Nat.eq_zero_or_pos n with h | h
 ·subst h; simp [off, fp, cnt]
 ·rw [ma ls h]
  unfold cnt
  rw [if_neg (by omega)]
  omega
theorem FT (ls : List Int) {m n : Nat} (h : m ≤ n) : ∃ t, fp ls n = fp ls m ++ t := by
 induction n with
 | zero =>
  obtain rfl : m = 0 := by omega
  exact ⟨[], by simp⟩
 | succ n ih =>
  by_cases e : m = n + 1
  ·subst e; exact ⟨[], by simp⟩
  ·obtain ⟨t, ht⟩ := ih (by omega)
   exact ⟨t ++ cls ls (n + 1), by simp [fp, ht]⟩
theorem j0 (ls : List Int) {m n : Nat} (h : m ≤ n) : off ls m ≤ off ls n := by
 induction n with
 | zero =>
  obtain rfl : m = 0 := by omega
  exact Nat.le_refl _
 | succ n ih =>
  by_cases e : m = n + 1
  ·subst e; exact Nat.le_refl _
  ·have := ih (by omega)
   have h2 := qE ls n
   have h3 := gO ls n
   omega
theorem uH (ls : List Int) : (ord ls).length = off ls 16 := rfl
theorem K6 {ls : List Int} {n r : Nat} (h1 : 1 ≤ n) (h2 : n ≤ 15) (h : r < (cls ls n).length) : (ord ls).getD (off ls n + r) 0 = (cls ls n).getD r 0 := by
 obtain ⟨t, ht⟩ := FT ls (show n ≤ 15 from h2)
 obtain ⟨m, rfl⟩ : ∃ m, n = m + 1 := ⟨n - 1, by omega⟩
 have e : ord ls = fp ls m ++ cls ls (m + 1) ++ t := by unfold ord; rw [ht]; rfl
 rw [e, List.append_assoc]
 simp only [List.getD_eq_getElem?_getD, off]
 rw [List.getElem?_append_right (by omega), List.getElem?_append_left (by omega)]
 congr 2
 omega
theorem qL {ls : List Int} {p : Nat} (h : p < (ord ls).length) : ∃ n r, 1 ≤ n ∧ n ≤ 15 ∧ r < (cls ls n).length ∧ p = off ls n + r := by
 have key : ∀ n, p < off ls (n + 1) → ∃ m r, 1 ≤ m ∧ m ≤ n ∧ r < (cls ls m).length ∧ p = off ls m + r := by
  intro n
  induction n with
  | zero => intro h; simp [off, fp] at h
  | succ n ih =>
   intro h
   by_cases h2 : p < off ls (n + 1)
   ·obtain ⟨m, r, a, b, c, d⟩ := ih h2
    exact ⟨m, r, a, by omega, c, d⟩
   ·have := ma ls (n := n + 1) (by omega)
    exact ⟨n + 1, p - off ls (n + 1), by omega, Nat.le_refl _, by omega, by omega⟩
 exact key 15 h
theorem HP {ls : List Int} {s n : Nat} (h : s < ls.length) (hn : ls.getD s 0 = (n : Int)) : ∃ t, cls ls n = cls (ls.take s) n ++ ((s : Int) :: t) := by
 have e : ls = ls.take (s + 1) ++ ls.drop (s + 1) := (List.take_append_drop _ _).symm
 have key : ∀ k, s + 1 + k ≤ ls.length → ∃ t, cls (ls.take (s + 1 + k)) n = cls (ls.take s) n ++ ((s : Int) :: t) := by
  intro k
  induction k with
  | zero =>
   intro _
   refine ⟨[], ?_⟩
   rw [Nat.add_zero, rM h, if_pos (by rw [← hn]; simp [List.getD_eq_getElem?_getD, h])]
  | succ k ih =>
   intro hk
   obtain ⟨t, ht⟩ := ih (by omega)
   refine ⟨t ++ (if ls[s + 1 + k] = (n : Int) then [((s + 1 + k : Nat) : Int)] else []), ?_⟩
   rw [show s + 1 + (k + 1) = (s + 1 + k) + 1 by omega, rM (show s + 1 + k < ls.length by omega), ht]
   simp
 obtain ⟨t, ht⟩ := key (ls.length - (s + 1)) (by omega)
 rw [show s + 1 + (ls.length - (s + 1)) = ls.length by omega, List.take_length] at ht
 exact ⟨t, ht⟩
theorem vP (ls : List Int) (n : Nat) : (cls ls n).Nodup := by
 unfold cls
 have h : ((List.range ls.length).filter (fun i => decide (ls.getD i 0 = (n : Int)))).Nodup := List.Pairwise.filter _ List.nodup_range
 rw [List.Nodup, List.pairwise_map]
 exact List.Pairwise.imp (fun {a b} hab he => hab (Int.ofNat.inj he)) h
theorem rf {ls : List Int} {n r : Nat} (h1 : 1 ≤ n) (h2 : n ≤ 15) (h : r < (cls ls n).length) :
  ∃ s : Nat, (ord ls).getD (off ls n + r) 0 = (s : Int) ∧ s < ls.length ∧ ls.getD s 0 = (n : Int) ∧ lenOf ls s = n ∧ eU ls s = base ls n + r := by
 have hr0 : (cls ls n)[r]? = some ((cls ls n).getD r 0) := by simp [List.getD_eq_getElem?_getD, h]
 have hm : (cls ls n).getD r 0 ∈ cls ls n := List.mem_of_getElem? hr0
 obtain ⟨a, b, c⟩ := ko.1 hm
 obtain ⟨s, hs⟩ : ∃ s : Nat, (cls ls n).getD r 0 = (s : Int) := ⟨((cls ls n).getD r 0).toNat, by omega⟩
 rw [hs] at hr0 b c
 simp only [Int.toNat_natCast] at b c
 have hl : lenOf ls s = n := by unfold lenOf; rw [c]; omega
 refine ⟨s, by rw [K6 h1 h2 h, hs], b, c, hl, ?_⟩
 unfold eU
 rw [hl]
 congr 1
 obtain ⟨t, ht⟩ := HP b c
 have hidx : (cls ls n)[(cls (ls.take s) n).length]? = some (s : Int) := by
  rw [ht, List.getElem?_append_right (Nat.le_refl _), Nat.sub_self]
  rfl
 have := (List.getElem?_inj (List.getElem?_eq_some_iff.1 hr0).1 (vP ls n)).1 (hr0.trans hidx.symm)
 omega
theorem xn {ls : List Int} {m n : Nat} (h : m ≤ n) (hz : ∀ k, m < k → k < n → cnt ls k = 0) (hmn : m < n) : base ls n = (base ls m + cnt ls m) * 2 ^ (n - m) := by
 induction n with
 | zero => omega
 | succ n ih =>
  by_cases e : m = n
  ·subst e
   rw [show m + 1 - m = 1 by omega]
   simp only [base]
   omega
  ·have := ih (by omega) (fun k k1 k2 => hz k k1 (by omega)) (by omega)
   simp only [base]
   rw [this, hz n (by omega) (by omega), show n + 1 - m = (n - m) + 1 by omega, Int.pow_succ]
   rw [Int.add_zero, Int.mul_comm 2, Int.mul_assoc]
theorem Ep {ls : List Int} {p : Nat} (hp : p + 1 < (ord ls).length) : ∃ s t : Nat, (ord ls).getD p 0 = (s : Int) ∧ (ord ls).getD (p + 1) 0 = (t : Int) ∧ s < ls.length ∧ t < ls.length ∧ 1 ≤ lenOf ls s ∧ lenOf ls s ≤ lenOf ls t ∧ lenOf ls t ≤ 15 ∧ ls.getD s 0 = (lenOf ls s : Int) ∧ ls.getD t 0 = (lenOf ls t : Int) ∧ eU ls t = (eU ls s + 1) * 2 ^ (lenOf ls t - lenOf ls s) := by
 obtain ⟨m, r, m1, m2, hr, e1⟩ := qL (show p < (ord ls).length by omega)
 obtain ⟨n, q, n1, n2, hq, e2⟩ := qL hp
 obtain ⟨s, s1, s2, s3, s4, s5⟩ := rf m1 m2 hr
 obtain ⟨t, t1, t2, t3, t4, t5⟩ := rf n1 n2 hq
 have hmn : m ≤ n := by
  rcases Nat.lt_or_ge n m with h | h
  ·exfalso
   have := j0 ls (show n + 1 ≤ m from h)
   have := ma ls n1
   omega
  ·exact h
 refine ⟨s, t, by rw [e1]; exact s1, by rw [e2]; exact t1, s2, t2, by omega, by omega, by omega, by rw [s4]; exact s3, by rw [t4]; exact t3, ?_⟩
 rw [s4, t4, s5, t5]
 by_cases e : m = n
 ·subst e
  rw [Nat.sub_self]
  simp
  omega
 ·have h3 := j0 ls (show m + 1 ≤ n by omega)
  have h4 := ma ls m1
  have hq0 : q = 0 := by omega
  have hrl : r + 1 = (cls ls m).length := by omega
  subst hq0
  have hz : ∀ k, m < k → k < n → cnt ls k = 0 := by
   intro k k1 k2
   have h5 := j0 ls (show m + 1 ≤ k by omega)
   have h6 := j0 ls (show k + 1 ≤ n by omega)
   have h7 := qE ls k
   have h8 := gO ls k
   omega
  have hc : cnt ls m = (r : Int) + 1 := by unfold cnt; rw [if_neg (by omega)]; omega
  rw [xn hmn hz (by omega), hc]
  simp [Int.add_assoc]
theorem BC {ls : List Int} (hp : 0 < (ord ls).length) : ∃ t : Nat, (ord ls).getD 0 0 = (t : Int) ∧ t < ls.length ∧ 1 ≤ lenOf ls t ∧ lenOf ls t ≤ 15 ∧ ls.getD t 0 = (lenOf ls t : Int) ∧ eU ls t = 0 := by
 obtain ⟨n, q, n1, n2, hq, e2⟩ := qL hp
 obtain ⟨t, t1, t2, t3, t4, t5⟩ := rf n1 n2 hq
 refine ⟨t, by rw [e2]; exact t1, t2, by omega, by omega, by rw [t4]; exact t3, ?_⟩
 have hz : ∀ k, 0 < k → k < n → cnt ls k = 0 := by
  intro k k1 k2
  have h6 := j0 ls (show k + 1 ≤ n by omega)
  have h7 := qE ls k
  have h8 := gO ls k
  omega
 rw [t5, xn (Nat.zero_le n) hz (by omega)]
 simp [base, cnt]
 omega
end Go.ae
namespace Go.ae
open Go.cg
abbrev key (ls : List Int) (x : Int) : Int := ls.getD x.toNat 0
theorem Hy (l : List Nat) (q : Nat → Bool) (p : Int → Bool) : ((l.filter q).map (fun i : Nat => (i : Int))).filter p = (l.filter (fun i => q i && p (i : Int))).map (fun i : Nat => (i : Int)) := by
 rw [List.filter_map, List.filter_filter]
 congr 2
 funext i
 simp [Bool.and_comm]
theorem HY (ls : List Int) (m : Nat) (c : Int) : (cls ls m).filter (fun x => decide (key ls x = c)) = if (m : Int) = c then cls ls m else [] := by
 by_cases h : (m : Int) = c
 ·rw [if_pos h, List.filter_eq_self]
  intro x hx
  have := (ko.1 hx).2.2
  simpa [h] using this.trans h
 ·rw [if_neg h, List.filter_eq_nil_iff]
  intro x hx
  have := (ko.1 hx).2.2
  simp only [decide_eq_true_eq]
  intro e
  exact h (this.symm.trans e)
theorem xd (ls : List Int) (c : Int) : ∀ n : Nat, (fp ls n).filter (fun x => decide (key ls x = c)) = if 1 ≤ c ∧ c ≤ (n : Int) then cls ls c.toNat else []
 | 0 => by rw [if_neg (by omega)]; rfl
 | n + 1 => by
  simp only [fp]
  rw [List.filter_append, xd ls c n, HY]
  by_cases h : ((n + 1 : Nat) : Int) = c
  ·rw [if_neg (by omega), if_pos h, if_pos (by omega), List.nil_append, ← h]
   rfl
  ·rw [if_neg h, List.append_nil]
   by_cases h2 : 1 ≤ c ∧ c ≤ (n : Int)
   ·rw [if_pos h2, if_pos (by omega)]
   ·rw [if_neg h2, if_neg (by omega)]
theorem D7 {ls : List Int} (hv : ∀ x ∈ ls, 0 ≤ x ∧ x ≤ 15) (c : Int) : (cC ls).filter (fun x => decide (key ls x = c)) = if 1 ≤ c ∧ c ≤ 15 then cls ls c.toNat else [] := by
 unfold cC
 rw [Hy]
 by_cases h : 1 ≤ c ∧ c ≤ 15
 ·rw [if_pos h]
  unfold cls
  congr 1
  apply List.filter_congr
  intro i hi
  simp only [key, Int.toNat_natCast]
  by_cases e : ls.getD i 0 = c
  ·have e2 : ls.getD i 0 = ((c.toNat : Nat) : Int) := by omega
   have e3 : 0 < ls.getD i 0 := by omega
   simp only [e, e2, decide_true, Bool.and_true, decide_eq_true_eq]
   simp; omega
  ·have e2 : ¬ ls.getD i 0 = ((c.toNat : Nat) : Int) := by omega
   rw [decide_eq_false e, decide_eq_false e2, Bool.and_false]
 ·rw [if_neg h]
  simp only [List.map_eq_nil_iff]
  rw [List.filter_eq_nil_iff]
  intro i hi hp
  have hi := List.mem_range.1 hi
  simp only [key, Int.toNat_natCast, Bool.and_eq_true, decide_eq_true_eq] at hp
  have := hv (ls.getD i 0) (by simp [List.getD_eq_getElem?_getD, hi])
  omega
theorem PL (ls : List Int) : Sd (key ls) 0 (ord ls) 0 (ord ls).length := by
 have : ∀ n, Sd (key ls) 0 (fp ls n) 0 (fp ls n).length ∧ ∀ x ∈ fp ls n, key ls x ≤ (n : Int) := by
  intro n
  induction n with
  | zero => exact ⟨Sd.small (by simp [fp]), fun x hx => by simp [fp] at hx⟩
  | succ n ih =>
   have hle : ∀ x ∈ fp ls n, key ls x ≤ (n : Int) := ih.2
   have hcl : ∀ x ∈ cls ls (n + 1), key ls x = ((n + 1 : Nat) : Int) := fun x hx => (ko.1 hx).2.2
   refine ⟨?_, ?_⟩
   ·simp only [fp, List.length_append]
    refine Sd.join (m := (fp ls n).length) ?_ ?_ ?_
    ·exact ih.1.congr (fun i _ h => bH h)
    ·intro i j i1 i2 i3
     rw [cU i1, cU (by omega), hcl _ (hG (by omega)), hcl _ (hG (by omega))]
     exact Int.le_refl _
    ·intro i j i1 i2 i3 i4
     rw [bH i2, cU i3, hcl _ (hG (by omega))]
     have := hle _ (hG (d := 0) i2)
     omega
   ·intro x hx
    simp only [fp, List.mem_append] at hx
    rcases hx with hx | hx
    ·have := hle x hx; omega
    ·have := hcl x hx; omega
 exact (this 15).1
theorem Gb {ls l2 : List Int} (hv : ∀ x ∈ ls, 0 ≤ x ∧ x ≤ 15) (hR : Rl (key ls) 0 (cC ls) l2 0 (cC ls).length) (hS : Sd (key ls) 0 l2 0 (cC ls).length) : l2 = ord ls := by
 refine unique (d := 0) (by rw [hR.len]; exact hS) (PL ls) (fun c => ?_)
 rw [hR.same c, D7 hv]
 unfold ord
 rw [xd]
 rfl
theorem xY {ls : List Int} {x : Int} : x ∈ cC ls ↔ 0 ≤ x ∧ x.toNat < ls.length ∧ 0 < ls.getD x.toNat 0 := by
 unfold cC
 simp only [List.mem_map, List.mem_filter, List.mem_range, decide_eq_true_eq]
 constructor
 ·rintro ⟨i, ⟨h1, h2⟩, rfl⟩
  exact ⟨by omega, by simpa using h1, by simpa using h2⟩
 ·rintro ⟨h1, h2, h3⟩
  exact ⟨x.toNat, ⟨h2, h3⟩, by omega⟩
theorem Cs {l : List Nat} (h : l.Nodup) : (l.map (fun i : Nat => (i : Int))).Nodup := by
 rw [List.Nodup, List.pairwise_map]
 exact List.Pairwise.imp (fun {a b} hab he => hab (Int.ofNat.inj he)) h
theorem By (ls : List Int) : (cC ls).Nodup := Cs (List.Pairwise.filter _ List.nodup_range)
theorem ud (ls : List Int) : ∀ n, (fp ls n).Nodup
 | 0 => by simp [fp]
 | n + 1 => by
  simp only [fp]
  rw [List.nodup_append]
  refine ⟨ud ls n, vP ls _, ?_⟩
  intro a ha b hb e
  subst e
  obtain ⟨m, m1, m2, m3⟩ := rU.1 ha
  have h1 := (ko.1 m3).2.2
  have h2 := (ko.1 hb).2.2
  omega
theorem xw {ls : List Int} (hv : Vl ls) : (cC ls).length = (ord ls).length :=
 ((List.perm_ext_iff_of_nodup (By ls) (ud ls 15)).2 (fun x => by rw [xY]; exact (uL hv).symm)).length_eq
def xN (ls : List Int) : Nat → Int
 | 0 => 0
 | k + 1 => eU ls ((ord ls).getD k 0).toNat + 1
def mI (ls : List Int) : Nat → Int
 | 0 => 0
 | k + 1 => (lenOf ls ((ord ls).getD k 0).toNat : Int)
theorem qU (ls : List Int) : ∀ n, 0 ≤ base ls n
 | 0 => by simp [base]
 | n + 1 => by
  have := qU ls n
  have := gO ls n
  simp only [base]
  omega
theorem qk {ls : List Int} : ∀ n : Nat, n ≤ 15 → left (bJ ls) n = 2 ^ n - (base ls n + cnt ls n)
 | 0, _ => by simp [left, base, cnt]
 | n + 1, h => by
  simp only [left, base]
  rw [qk n (by omega), n8 (by omega), Int.pow_succ]
  omega
theorem tD {C : List Int} {all : Int} (h : fM C all = true) {n : Nat} (hn : n ≤ 15) : 0 ≤ left C n := by
 rcases Nat.eq_zero_or_pos n with e | e
 ·subst e; simp [left]
 ·by_cases hl : left C n < 0
  ·rw [zd e hn hl] at h
   cases h
  ·omega
theorem LI {ls : List Int} {all : Int} (hw : fM (bJ ls) all = true) {n r : Nat} (h1 : 1 ≤ n) (h2 : n ≤ 15) (h : r < (cls ls n).length) : base ls n + (r : Int) < 2 ^ n := by
 have h3 := tD hw h2
 rw [qk n h2] at h3
 have : cnt ls n = ((cls ls n).length : Int) := by unfold cnt; rw [if_neg (by omega)]
 omega
theorem qh {n : Nat} (h : n ≤ 15) : (2 : Int) ^ n ≤ 32768 := by
 have : (2 : Nat) ^ n ≤ 2 ^ 15 := Nat.pow_le_pow_right (by decide) h
 have e : ((2 : Int) ^ n) = ((2 ^ n : Nat) : Int) := by simp
 rw [e]
 omega
structure At (ls : List Int) (k : Nat) (s : Nat) : Prop where
 sym : (ord ls).getD k 0 = (s : Int)
 lt : s < ls.length
 one : 1 ≤ lenOf ls s
 top : lenOf ls s ≤ 15
 len : ls.getD s 0 = (lenOf ls s : Int)
 ge : mI ls k ≤ lenOf ls s
 nn : 0 ≤ mI ls k
 word : xN ls k * 2 ^ (lenOf ls s - (mI ls k).toNat) = eU ls s
 w0 : 0 ≤ eU ls s
 w1 : eU ls s < 2 ^ lenOf ls s
theorem XB {ls : List Int} {all : Int} (hw : fM (bJ ls) all = true) {k : Nat} (hk : k < (ord ls).length) : ∃ s, At ls k s := by
 obtain ⟨n, r, n1, n2, hr, e⟩ := qL hk
 obtain ⟨t, t1, t2, t3, t4, t5⟩ := rf n1 n2 hr
 have hlt := LI hw n1 n2 hr
 have hb := qU ls n
 cases k with
 | zero =>
  obtain ⟨s, s1, s2, s3, s4, s5, s6⟩ := BC hk
  have hst : s = t := by rw [e] at s1; rw [t1] at s1; omega
  subst hst
  refine ⟨s, s1, s2, s3, s4, s5, by simp [mI], by simp [mI], by simp [xN, s6], by omega, by rw [t4, t5]; exact hlt⟩
 | succ k =>
  obtain ⟨s, u, s1, u1, s2, u2, s3, s4, s5, s6, u6, u7⟩ := Ep hk
  have hut : u = t := by rw [e] at u1; rw [t1] at u1; omega
  subst hut
  refine ⟨u, u1, u2, by omega, s5, u6, by simp only [mI]; rw [s1]; simp; exact s4, by simp only [mI]; omega, ?_, by rw [t5]; omega, by rw [t4, t5]; exact hlt⟩
  simp only [xN, mI]
  rw [s1, u7]
  simp
def wd (ls : List Int) (s : Nat) : Int × Int := if 0 < lenOf ls s then (eU ls s, (lenOf ls s : Int)) else (0, 0)
def gY (ls : List Int) (k : Nat) : List (Int × Int) := (List.range ls.length).map (fun s : Nat => if (s : Int) ∈ (ord ls).take k then wd ls s else (0, 0))
def words (ls : List Int) : List (Int × Int) := (List.range ls.length).map (wd ls)
theorem oC (ls : List Int) (k : Nat) : (gY ls k).length = ls.length := by simp [gY]
theorem zr (ls : List Int) : gY ls 0 = List.replicate ls.length (0, 0) := by
 simp [gY, List.map_const']
theorem Cx {ls : List Int} (hv : Vl ls) {k : Nat} (hk : (ord ls).length ≤ k) : gY ls k = words ls := by
 unfold gY words
 rw [List.take_of_length_le hk]
 apply List.map_congr_left
 intro s hs
 have hs := List.mem_range.1 hs
 by_cases h : (s : Int) ∈ ord ls
 ·rw [if_pos h]
 ·rw [if_neg h]
  unfold wd
  rw [if_neg]
  intro h2
  exact h ((uL hv).2 ⟨by omega, by simpa using hs, by simpa [lenOf] using h2⟩)
theorem zk {ls : List Int} {k s : Nat} (hk : k < (ord ls).length) (ha : At ls k s) : gY ls (k + 1) = (gY ls k).set s (eU ls s, (lenOf ls s : Int)) := by
 have e1 : (ord ls).take (k + 1) = (ord ls).take k ++ [(s : Int)] := by
  rw [List.take_succ_eq_append_getElem hk]
  congr 2
  have := ha.sym
  simpa [List.getD_eq_getElem?_getD, hk] using this
 apply List.ext_getElem?
 intro i
 rw [List.getElem?_set]
 by_cases hi : i < ls.length
 ·by_cases e : s = i
  ·subst e
   rw [if_pos rfl, if_pos (by rw [oC]; exact hi)]
   simp only [gY, List.getElem?_map, List.getElem?_range hi, Option.map_some]
   rw [if_pos (by rw [e1]; simp)]
   unfold wd
   rw [if_pos (by have := ha.one; omega)]
  ·rw [if_neg e]
   simp only [gY, List.getElem?_map, List.getElem?_range hi, Option.map_some]
   by_cases hm : (i : Int) ∈ (ord ls).take k
   ·rw [if_pos hm, if_pos (by rw [e1]; exact List.mem_append_left _ hm)]
   ·rw [if_neg hm, if_neg]
    rw [e1]
    intro h
    rcases List.mem_append.1 h with h | h
    ·exact hm h
    ·have := List.mem_singleton.1 h
     omega
 ·rw [List.getElem?_eq_none (by rw [oC]; omega)]
  have hs := ha.lt
  rw [if_neg (by omega), List.getElem?_eq_none (by rw [oC]; omega)]
theorem vq {ls : List Int} {k : Nat} (h : k < ls.length) : bX (ls.take (k + 1)) = if bX (ls.take k) < ls[k] then ls[k] else bX (ls.take k) := by
 unfold bX
 rw [List.take_succ_eq_append_getElem h, List.foldl_append]
 rfl
theorem zJ (ls : List Int) : 0 ≤ bX ls := by
 have : ∀ (l : List Int) (a : Int), 0 ≤ a → 0 ≤ l.foldl (fun a x => if a < x then x else a) a := by
  intro l
  induction l with
  | nil => intro a h; exact h
  | cons x l ih => intro a h; simp only [List.foldl_cons]; exact ih _ (by split <;> omega)
 exact this ls 0 (Int.le_refl _)
theorem LR {ls : List Int} {k : Nat} (h : ∀ i, i < k → 0 ≤ ls.getD i 0 ∧ ls.getD i 0 ≤ 15) (hk : ls.length ≤ k) : ∀ x ∈ ls, 0 ≤ x ∧ x ≤ 15 := by
 intro x hx
 obtain ⟨i, hi⟩ := List.getElem?_of_mem hx
 have hlt := (List.getElem?_eq_some_iff.1 hi).1
 have := h i (by omega)
 simpa [List.getD_eq_getElem?_getD, hi] using this
theorem oh {ls : List Int} (h : ls.length ≤ 320) : ∀ i, 0 ≤ (bJ ls).getD i 0 ∧ (bJ ls).getD i 0 ≤ 320 := by
 intro i
 rcases Nat.lt_or_ge i 16 with hi | hi
 ·rw [n8 hi]
  have := gO ls i
  have := SI ls i
  omega
 ·rw [List.getD_eq_getElem?_getD, List.getElem?_eq_none (by rw [jl]; exact hi)]
  simp
theorem Kv (ls : List Int) : ∀ i, i < (cC ls).length → 0 ≤ (cC ls).getD i 0 ∧ (cC ls).getD i 0 < (ls.length : Int) := by
 intro i hi
 have := xY.1 (hG (d := 0) hi)
 omega
theorem Aw {ls : List Int} {k : Nat} (hok : ∀ i, i < k → 0 ≤ ls.getD i 0 ∧ ls.getD i 0 ≤ 15) (h : 0 ≤ ls.getD k 0 ∧ ls.getD k 0 ≤ 15) : ∀ i, i < k + 1 → 0 ≤ ls.getD i 0 ∧ ls.getD i 0 ≤ 15 := by
 intro i hi
 by_cases e : i = k
 ·subst e; exact h
 ·exact hok i (by omega)
theorem Du {ls : List Int} {k : Nat} {x : Int} (h : k < ls.length) (hx : x = ls[k]) (h0 : x = 0) : bJ (ls.take (k + 1)) = bJ (ls.take k) ∧ cC (ls.take (k + 1)) = cC (ls.take k) ∧ bX (ls.take (k + 1)) = bX (ls.take k) := by
 have hz : ls[k] = 0 := by omega
 refine ⟨D0 h hz, ?_, ?_⟩
 ·rw [px h, if_neg (by omega), List.append_nil]
 ·rw [vq h, if_neg]
  have := zJ (ls.take k)
  omega
theorem step_pos {ls : List Int} {k : Nat} {x : Int} (h : k < ls.length) (hx : x = ls[k]) (h0 : 0 < x) (h1 : x ≤ 15) : (bJ (ls.take k)).set x.toNat ((bJ (ls.take k)).getD x.toNat 0 + 1) = bJ (ls.take (k + 1)) ∧ cC (ls.take k) ++ [(k : Int)] = cC (ls.take (k + 1)) ∧ (cC (ls.take k)).length + 1 = (cC (ls.take (k + 1))).length ∧ (if bX (ls.take k) < x then x else bX (ls.take k)) = bX (ls.take (k + 1)) := by
 subst hx
 refine ⟨(Fg h h0 h1).symm, ?_, ?_, (vq h).symm⟩
 ·rw [px h, if_pos h0]
 ·rw [px h, if_pos h0]; simp
theorem xW : cC [] = [] := rfl
theorem G6 : bX [] = 0 := rfl
theorem vw {ls : List Int} (h : 320 < ls.length) : a8 ls = 1 := if_pos h
theorem oD {ls : List Int} {k : Nat} (h : ¬ 320 < ls.length) (hk : k < ls.length) (hb : ls.getD k 0 < 0 ∨ 15 < ls.getD k 0) : a8 ls = 1 := by
 unfold a8
 rw [if_neg h, if_neg]
 intro ho
 unfold okB at ho
 rw [List.all_eq_true] at ho
 have := ho (ls.getD k 0) (by simp [List.getD_eq_getElem?_getD, hk])
 simp only [decide_eq_true_eq] at this
 omega
theorem Kl {ls : List Int} (h : ¬ 320 < ls.length) (hv : ∀ x ∈ ls, 0 ≤ x ∧ x ≤ 15) : a8 ls = if fM (bJ ls) ((cC ls).length : Int) = true then 0 else 4 := by
 unfold a8
 rw [if_neg h, if_pos]
 unfold okB
 rw [List.all_eq_true]
 intro x hx
 simpa using hv x hx
theorem kL {ls : List Int} (h : a8 ls = 0) : Vl ls ∧ fM (bJ ls) ((cC ls).length : Int) = true := by
 unfold a8 at h
 split at h
 ·omega
 ·split at h
  ·rename_i ho
   split at h
   ·rename_i hw
    refine ⟨⟨by omega, ?_⟩, hw⟩
    unfold okB at ho
    rw [List.all_eq_true] at ho
    intro x hx
    simpa using ho x hx
   ·omega
  ·omega
def lq (ls : List Int) (x : Int) : Int := if 0 ≤ x ∧ x < ls.length then (wd ls x.toNat).1 else 0
def jI (ls : List Int) (x : Int) : Int := if 0 ≤ x ∧ x < ls.length then (wd ls x.toNat).2 else 0
def ns (ls : List Int) (x : Int) : Bool := decide (0 ≤ x ∧ x < ls.length ∧ (wd ls x.toNat).2 ≠ 0)
end Go.ae
namespace Go.ae
def Xf (ls : List Int) : List Int := (List.range 16).map (fun n => ((cls ls n).length : Int))
def sy (ls : List Int) (m i : Nat) : List Int := fp ls m ++ cls (ls.take i) (m + 1)
end Go.ae
namespace Go.ae
def bk (ls : List Int) (n : Nat) : Nat → Int
  | 0 => base ls n
  | k + 1 => bk ls n k + 1
structure Sy (ls : List Int) (x : Int) (L r : Nat) : Prop where
  one : 1 ≤ L
  top : L ≤ 15
  lt : r < (cls ls L).length
  get : (cls ls L).getD r 0 = x
  w : lq ls x = base ls L + (r : Int)
  n : jI ls x = (L : Int)
  b : ns ls x = true
theorem Ku (ls : List Int) (m : Nat) : cnt ls (m + 1) = ((cls ls (m + 1)).length : Int) := by unfold cnt; rw [if_neg (by omega)]
theorem MQ (ls : List Int) {m k : Nat} (hm : m < 15) (hk : k < (cls ls (m + 1)).length) : off ls (m + 1) + k < (ord ls).length := by
  have h1 := ma ls (n := m + 1) (by omega)
  have h2 := j0 ls (show m + 1 + 1 ≤ 16 by omega)
  rw [uH]
  omega
theorem Ba {ls : List Int} {all : Int} (hw : fM (bJ ls) all = true) {n : Nat} (hn : n ≤ 15) : base ls n + cnt ls n ≤ 32768 := by
  have h3 := tD hw hn
  rw [qk n hn] at h3
  have := qh hn
  omega
end Go.ae
namespace Go.Sl
theorem HU {ls : List Int} {k s : Nat} (hs : ae.At ls k s) {x : Int} (hx : x = (ae.lenOf ls s : Int)) : IntKind.i64.wrap (ae.xN ls k * 2 ^ (min (x - ae.mI ls k).toNat IntKind.i64.bits)) = ae.eU ls s := by
  have h1 := hs.top
  have h2 := hs.nn
  have h3 := hs.ge
  have h4 := hs.w0
  have h5 := hs.w1
  have h6 := ae.qh hs.top
  have e : min (x - ae.mI ls k).toNat IntKind.i64.bits = ae.lenOf ls s - (ae.mI ls k).toNat := by
    have : IntKind.i64.bits = 64 := rfl
    omega
  rw [e, hs.word]
  exact eX (by omega) (by omega)
theorem F2 {ls : List Int} {all : Int} (hw : ae.fM (ae.bJ ls) all = true) {m : Nat} (hm : m ≤ 15) : IntKind.i64.wrap ((ae.base ls m + ae.cnt ls m) * 2 ^ (min (1 : Int).toNat IntKind.i64.bits)) = ae.base ls (m + 1) := by
  have h1 := ae.Ba hw hm
  have h2 := ae.qU ls m
  have h3 := ae.gO ls m
  rw [show min (1 : Int).toNat IntKind.i64.bits = 1 from rfl]
  simp only [ae.base]
  rw [Int.mul_comm 2, Int.pow_one]
  exact eX (by omega) (by omega)
end Go.Sl
namespace Go.ae
theorem LO (ls : List Int) {m n : Nat} (h : m < n) : (base ls m + cnt ls m) * 2 ^ (n - m) ≤ base ls n := by
  induction n with
  | zero => omega
  | succ n ih =>
    have hc := gO ls n
    by_cases e : m = n
    · subst e
      rw [show m + 1 - m = 1 by omega]
      simp only [base]
      omega
    · have := ih (by omega)
      simp only [base]
      rw [show n + 1 - m = (n - m) + 1 by omega, Int.pow_succ, ← Int.mul_assoc]
      omega
structure Pf (ls : List Int) (i k : Int) : Prop where
  n1 : 1 ≤ jI ls i
  n2 : jI ls i ≤ 15
  m1 : 1 ≤ jI ls k
  m2 : jI ls k ≤ 15
  a0 : 0 ≤ lq ls i
  a1 : lq ls i < 32768
  b0 : 0 ≤ lq ls k
  b1 : lq ls k < 32768
  ge : jI ls k ≤ jI ls i → lq ls k < (lq ls i).fdiv (2 ^ (jI ls i - jI ls k).toNat)
  lt : jI ls i < jI ls k → lq ls i < (lq ls k).fdiv (2 ^ (jI ls k - jI ls i).toNat)
theorem bA {ls : List Int} {m n r s : Nat} (h : m < n) (hm : 1 ≤ m) (hr : r < (cls ls m).length) : base ls m + (r : Int) < (base ls n + (s : Int)).fdiv (2 ^ (n - m)) := by
  have h1 := LO ls h
  have hc : cnt ls m = ((cls ls m).length : Int) := by unfold cnt; rw [if_neg (by omega)]
  have hp : (0 : Int) < 2 ^ (n - m) := Int.pow_pos (by decide)
  rw [Int.fdiv_eq_ediv_of_nonneg _ (Int.le_of_lt hp)]
  have : base ls m + cnt ls m ≤ (base ls n + (s : Int)) / 2 ^ (n - m) := by
    rw [Int.le_ediv_iff_mul_le hp]
    omega
  omega
def UG (ls : List Int) : Nat → Int
  | 0 => 0
  | k + 1 => UG ls k + (if 0 < ls.getD k 0 then 2 ^ (15 - lenOf ls k) else 0)
end Go.ae
namespace Go.af
def ak (B : List Int) : Prop := ∀ x ∈ B, 0 ≤ x ∧ x < 256
theorem ak.get {B : List Int} (h : ak B) (i : Nat) : 0 ≤ B.getD i 0 ∧ B.getD i 0 < 256 := by
  rcases Nat.lt_or_ge i B.length with hi | hi
  · exact h _ (by simp [List.getD_eq_getElem?_getD, hi])
  · simp [List.getD_eq_getElem?_getD, hi]
def hH (B : List Int) (i : Nat) : Int := B.getD (i / 8) 0 / 2 ^ (i % 8) % 2
theorem lS (B : List Int) (i : Nat) : 0 ≤ hH B i ∧ hH B i ≤ 1 := by unfold hH; omega
def aK (B : List Int) (at_ : Nat) : Nat → Int
  | 0 => 0
  | n + 1 => aK B at_ n + hH B (at_ + n) * 2 ^ n
theorem bF (B : List Int) (at_ : Nat) : ∀ n : Nat, 0 ≤ aK B at_ n ∧ aK B at_ n < 2 ^ n
  | 0 => by simp [aK]
  | n + 1 => by
    have h := bF B at_ n
    have h2 := lS B (at_ + n)
    have hp : (0 : Int) < 2 ^ n := Int.pow_pos (by decide)
    simp only [aK]
    rw [Int.pow_succ]
    have h3 : hH B (at_ + n) = 0 ∨ hH B (at_ + n) = 1 := by omega
    rcases h3 with e | e <;> rw [e] <;> omega
theorem qx {n : Nat} (h : n ≤ 24) : (2 : Int) ^ n ≤ 16777216 := by
  have : (2 : Nat) ^ n ≤ 2 ^ 24 := Nat.pow_le_pow_right (by decide) h
  have e : ((2 : Int) ^ n) = ((2 ^ n : Nat) : Int) := by simp
  rw [e]
  omega
theorem cn (k : Nat) (a : Nat) : (BitVec.ofInt k (a : Int)).toNat = a % 2 ^ k := by
  rw [BitVec.toNat_ofInt]
  have : ((a : Int) % ((2 ^ k : Nat) : Int)) = ((a % 2 ^ k : Nat) : Int) := by simp
  omega
theorem ur {a b : Nat} (ha : a < 2 ^ 62) (hb : b < 2 ^ 62) : IntKind.i64.wrap ((BitVec.ofInt IntKind.i64.bits (a : Int) ||| BitVec.ofInt IntKind.i64.bits (b : Int)).toNat : Int) = ((a ||| b : Nat) : Int) := by
  have e : IntKind.i64.bits = 64 := rfl
  rw [e, BitVec.toNat_or, cn, cn, Nat.mod_eq_of_lt (by omega), Nat.mod_eq_of_lt (by omega)]
  have := Nat.or_lt_two_pow ha hb
  exact Sl.eX (by omega) (by omega)
theorem TN {x b : Int} {n : Nat} (h0 : 0 ≤ x) (h1 : x < 2 ^ n) (hb : 0 ≤ b ∧ b ≤ 1) (hn : n ≤ 24) : IntKind.i64.wrap ((BitVec.ofInt IntKind.i64.bits x ||| BitVec.ofInt IntKind.i64.bits (b * 2 ^ n)).toNat : Int) = x + b * 2 ^ n := by
  obtain ⟨a, rfl⟩ : ∃ a : Nat, x = (a : Int) := ⟨x.toNat, by omega⟩
  obtain ⟨c, rfl⟩ : ∃ c : Nat, b = (c : Int) := ⟨b.toNat, by omega⟩
  have hp := qx hn
  have e1 : (c : Int) * 2 ^ n = ((2 ^ n * c : Nat) : Int) := by rw [Nat.mul_comm]; simp
  have ha : a < 2 ^ n := by
    have : ((a : Nat) : Int) < ((2 ^ n : Nat) : Int) := by simpa using h1
    omega
  have hpn : 2 ^ n ≤ 16777216 := by
    have : ((2 ^ n : Nat) : Int) ≤ 16777216 := by simpa using hp
    omega
  have hc : 2 ^ n * c ≤ 16777216 := by
    have : c = 0 ∨ c = 1 := by omega
    rcases this with rfl | rfl <;> omega
  rw [e1, ur (by omega) (by omega), Nat.or_comm, ← Nat.two_pow_add_eq_or_of_lt ha]
  omega
theorem EA {x b : Int} (h0 : 0 ≤ x) (h1 : x < 2 ^ 40) (hb : 0 ≤ b ∧ b ≤ 1) : IntKind.i64.wrap ((BitVec.ofInt IntKind.i64.bits (2 * x) ||| BitVec.ofInt IntKind.i64.bits b).toNat : Int) = 2 * x + b := by
  obtain ⟨a, rfl⟩ : ∃ a : Nat, x = (a : Int) := ⟨x.toNat, by omega⟩
  obtain ⟨c, rfl⟩ : ∃ c : Nat, b = (c : Int) := ⟨b.toNat, by omega⟩
  have e1 : 2 * (a : Int) = ((2 ^ 1 * a : Nat) : Int) := by omega
  rw [e1, ur (by omega) (by omega), ← Nat.two_pow_add_eq_or_of_lt (by omega)]
  omega
theorem yW {x : Int} (h0 : 0 ≤ x) (h1 : x < 256) : IntKind.u8.wrap ((BitVec.ofInt IntKind.u8.bits x &&& BitVec.ofInt IntKind.u8.bits 1).toNat : Int) = x % 2 := by
  obtain ⟨a, rfl⟩ : ∃ a : Nat, x = (a : Int) := ⟨x.toNat, by omega⟩
  have e : IntKind.u8.bits = 8 := rfl
  have e1 : BitVec.ofInt 8 1 = BitVec.ofInt 8 ((1 : Nat) : Int) := rfl
  rw [e, e1, BitVec.toNat_and, cn, cn, Nat.mod_eq_of_lt (by omega)]
  have : a &&& (1 % 2 ^ 8) = a % 2 := Nat.and_one_is_mod a
  rw [this]
  have e2 : IntKind.u8.wrap (((a % 2 : Nat)) : Int) = ((a % 2 : Nat) : Int) % 256 := by simp [IntKind.wrap, IntKind.bits, IntKind.signed]
  rw [e2]
  omega
theorem Fb {x : Int} (h0 : 0 ≤ x) (h1 : x < 2 ^ 62) : IntKind.i64.wrap ((BitVec.ofInt IntKind.i64.bits x &&& BitVec.ofInt IntKind.i64.bits 1).toNat : Int) = x % 2 := by
  obtain ⟨a, rfl⟩ : ∃ a : Nat, x = (a : Int) := ⟨x.toNat, by omega⟩
  have e : IntKind.i64.bits = 64 := rfl
  have e1 : BitVec.ofInt 64 1 = BitVec.ofInt 64 ((1 : Nat) : Int) := rfl
  rw [e, e1, BitVec.toNat_and, cn, cn, Nat.mod_eq_of_lt (by omega)]
  have : a &&& (1 % 2 ^ 64) = a % 2 := Nat.and_one_is_mod a
  rw [this]
  exact (Sl.eX (by omega) (by omega)).trans (by omega)
theorem Rn {x : Int} {k : Nat} (h0 : 0 ≤ x) (hk : k < 8) {d : Int} (hd : d = (k : Int)) : x.fdiv (2 ^ (min d.toNat IntKind.u8.bits)) = x / 2 ^ k := by
  have e : min d.toNat IntKind.u8.bits = k := by
    have : IntKind.u8.bits = 8 := rfl
    omega
  rw [e, Int.fdiv_eq_ediv_of_nonneg _ (Int.le_of_lt (Int.pow_pos (by decide)))]
theorem S9 {b : Int} {n : Nat} (hb : 0 ≤ b ∧ b ≤ 1) (hn : n ≤ 24) {d : Int} (hd : d = (n : Int)) : IntKind.i64.wrap (b * 2 ^ (min d.toNat IntKind.i64.bits)) = b * 2 ^ n := by
  have e : min d.toNat IntKind.i64.bits = n := by
    have : IntKind.i64.bits = 64 := rfl
    omega
  rw [e]
  have hp := qx hn
  have h0 : (0 : Int) < 2 ^ n := Int.pow_pos (by decide)
  have h3 : b = 0 ∨ b = 1 := by omega
  rcases h3 with e | e <;> rw [e] <;> exact Sl.eX (by omega) (by omega)
theorem PI {x : Int} (h0 : 0 ≤ x) (h1 : x < 2 ^ 40) : IntKind.i64.wrap (x * 2 ^ (min (1 : Int).toNat IntKind.i64.bits)) = 2 * x := by
  rw [show min (1 : Int).toNat IntKind.i64.bits = 1 from rfl, Int.pow_one]
  rw [Sl.eX (by omega) (by omega)]
  omega
theorem xb {x : Int} (h0 : 0 ≤ x) (h1 : x < 256) (k : Nat) : 0 ≤ x / 2 ^ k ∧ x / 2 ^ k < 256 := by
  have hp : (0 : Int) < 2 ^ k := Int.pow_pos (by decide)
  have h2 := Int.ediv_nonneg h0 (Int.le_of_lt hp)
  have h3 := Int.ediv_le_self (2 ^ k) h0
  omega
end Go.af
namespace Go.Sl
theorem qP {n : Int} (h1 : 0 ≤ n) (h2 : n < 256) : IntKind.u8.wrap n = n := by
  have e : IntKind.u8.wrap n = n % 256 := by simp [IntKind.wrap, IntKind.bits, IntKind.signed]
  rw [e]; omega
end Go.Sl
namespace Go.af
def acc (B : List Int) (at_ : Nat) : Nat → Int
  | 0 => 0
  | n + 1 => 2 * acc B at_ n + hH B (at_ + n)
theorem oW (B : List Int) (at_ : Nat) : ∀ n : Nat, 0 ≤ acc B at_ n ∧ acc B at_ n < 2 ^ n
  | 0 => by simp [acc]
  | n + 1 => by
    have h := oW B at_ n
    have h2 := lS B (at_ + n)
    simp only [acc]
    rw [Int.pow_succ]
    omega
theorem xF (B : List Int) (a : Nat) : aK B a 1 = hH B a := by simp [aK]
end Go.af
namespace Go.ae
open Go.af
inductive TR where
  | vb (n : Nat) (s : Int)
  | short (n : Nat)
  | none_ (n : Nat)
def ly (ls B : List Int) (at_ : Nat) : Nat → Nat → TR
  | 0, n => .none_ n
  | r + 1, n => if at_ + n < 8 * B.length then (if acc B at_ (n + 1) - base ls (n + 1) < cnt ls (n + 1) then .vb (n + 1) ((ord ls).getD (off ls (n + 1) + (acc B at_ (n + 1) - base ls (n + 1)).toNat) 0) else ly ls B at_ r (n + 1)) else .short n
def kg (ls : List Int) : Nat := (bX ls).toNat
def tk (ls B : List Int) (at_ : Nat) : TR := ly ls B at_ (kg ls) 0
structure Tk (ls B : List Int) (at_ n : Nat) : Prop where
  le : n ≤ kg ls
  eq : tk ls B at_ = ly ls B at_ (kg ls - n) n
  ge : base ls n + cnt ls n ≤ acc B at_ n
  room : at_ + n ≤ 8 * B.length
theorem GJ {ls B : List Int} {at_ : Nat} (h : at_ ≤ 8 * B.length) : Tk ls B at_ 0 := ⟨Nat.zero_le _, rfl, by simp [base, cnt, acc], h⟩
section
variable {ls B : List Int} {at_ n : Nat}
theorem Tk.none (h : Tk ls B at_ n) (hm : kg ls ≤ n) : tk ls B at_ = .none_ n := by
  rw [h.eq, show kg ls - n = 0 by omega]; rfl
theorem Tk.short (h : Tk ls B at_ n) (hm : n < kg ls) (hx : 8 * B.length ≤ at_ + n) : tk ls B at_ = .short n := by
  rw [h.eq, show kg ls - n = (kg ls - (n + 1)) + 1 by omega]
  simp only [ly]
  rw [if_neg (by omega)]
theorem Tk.vb (h : Tk ls B at_ n) (hm : n < kg ls) (hx : at_ + n < 8 * B.length) (hl : acc B at_ (n + 1) - base ls (n + 1) < cnt ls (n + 1)) : tk ls B at_ = .vb (n + 1) ((ord ls).getD (off ls (n + 1) + (acc B at_ (n + 1) - base ls (n + 1)).toNat) 0) := by
  rw [h.eq, show kg ls - n = (kg ls - (n + 1)) + 1 by omega]
  simp only [ly]
  rw [if_pos hx, if_pos hl]
theorem Tk.X8 (h : Tk ls B at_ n) (hm : n < kg ls) (hx : at_ + n < 8 * B.length) (hl : ¬ acc B at_ (n + 1) - base ls (n + 1) < cnt ls (n + 1)) : Tk ls B at_ (n + 1) := by
  refine ⟨hm, ?_, by omega, by omega⟩
  rw [h.eq, show kg ls - n = (kg ls - (n + 1)) + 1 by omega]
  simp only [ly]
  rw [if_pos hx, if_neg hl]
theorem Tk.nn (h : Tk ls B at_ n) : base ls (n + 1) ≤ acc B at_ (n + 1) := by
  have h1 := h.ge
  have h2 := lS B (at_ + n)
  simp only [base, acc]
  omega
end
theorem KO (ls : List Int) : bX ls = 0 ∨ bX ls ∈ ls := by
  have key : ∀ (l : List Int) (a : Int), l.foldl (fun a x => if a < x then x else a) a = a ∨ l.foldl (fun a x => if a < x then x else a) a ∈ l := by
    intro l
    induction l with
    | nil => intro a; exact .inl rfl
    | cons y l ih =>
      intro a
      simp only [List.foldl_cons]
      rcases ih (if a < y then y else a) with h | h
      · rw [h]
        split
        · exact .inr (List.mem_cons_self ..)
        · exact .inl rfl
      · exact .inr (List.mem_cons_of_mem _ h)
  exact key ls 0
theorem Su {ls : List Int} (hV : Vl ls) : kg ls ≤ 15 := by
  unfold kg
  rcases KO ls with h | h
  · omega
  · have := hV.2 _ h; omega
theorem Pa (ls : List Int) : bX ls = (kg ls : Int) := by
  have := zJ ls
  unfold kg; omega
theorem EI {ls : List Int} (hV : Vl ls) {m : Nat} (hm : m ≤ 15) : off ls (m + 1) ≤ 320 := by
  have h1 := j0 ls (show m + 1 ≤ 16 by omega)
  have h2 := xw hV
  have h3 := uP ls
  have h4 := hV.1
  rw [uH] at h2
  omega
theorem MU {ls : List Int} {m : Nat} (hm : m < 15) : (bJ ls).getD ((m : Int) + 1).toNat 0 = cnt ls (m + 1) := by
  rw [show ((m : Int) + 1).toNat = m + 1 by omega, n8 (by omega)]
theorem O4 {ls : List Int} {m : Nat} {a : Int} (hm : m < 15) (h0 : base ls (m + 1) ≤ a) (hl : a - base ls (m + 1) < cnt ls (m + 1)) : off ls (m + 1) + (a - base ls (m + 1)).toNat < (ord ls).length := by
  have := Ku ls m
  exact MQ ls hm (by omega)
theorem so {ls B : List Int} {at_ m : Nat} {s : Int} : ∀ (r n : Nat), ly ls B at_ r n = .vb m s → n < m ∧ at_ + m ≤ 8 * B.length
  | 0, n, h => by simp [ly] at h
  | r + 1, n, h => by
    simp only [ly] at h
    split at h
    · split at h
      · cases h; omega
      · have := so r (n + 1) h; omega
    · cases h
end Go.ae
namespace Go.af
structure Pk (bs out : List Int) (fr : Nat) : Prop where
 le : fr ≤ 8
 len : 8 * out.length = bs.length + fr
 oH : ak out
 get : ∀ i, i < bs.length → hH out i = bs.getD i 0
 zero : ∀ i, bs.length ≤ i → hH out i = 0
theorem ZD {a b : Nat} (ha : a < 256) (hb : b < 256) : IntKind.u8.wrap ((BitVec.ofInt IntKind.u8.bits (a : Int) ||| BitVec.ofInt IntKind.u8.bits (b : Int)).toNat : Int) = ((a ||| b : Nat) : Int) := by
 have e : IntKind.u8.bits = 8 := rfl
 rw [e, BitVec.toNat_or, cn, cn, Nat.mod_eq_of_lt (by omega), Nat.mod_eq_of_lt (by omega)]
 have := Nat.or_lt_two_pow (n := 8) ha hb
 have e2 : ∀ n : Nat, n < 256 → IntKind.u8.wrap (n : Int) = (n : Int) := fun n hn => Sl.qP (by omega) (by omega)
 exact e2 _ this
def vl (x b : Int) (p : Nat) : Int := ((x.toNat ||| b.toNat * 2 ^ p : Nat) : Int)
theorem MI {x b : Int} {p : Nat} (hx : 0 ≤ x ∧ x < 256) (hb : 0 ≤ b ∧ b ≤ 1) (hp : p < 8) : IntKind.u8.wrap ((BitVec.ofInt IntKind.u8.bits x ||| BitVec.ofInt IntKind.u8.bits (b * 2 ^ p)).toNat : Int) = vl x b p := by
 obtain ⟨a, rfl⟩ : ∃ a : Nat, x = (a : Int) := ⟨x.toNat, by omega⟩
 obtain ⟨c, rfl⟩ : ∃ c : Nat, b = (c : Int) := ⟨b.toNat, by omega⟩
 have e : (c : Int) * 2 ^ p = ((c * 2 ^ p : Nat) : Int) := by simp
 have h2 : c * 2 ^ p < 256 := by
  have h3 : 2 ^ p ≤ 2 ^ 7 := Nat.pow_le_pow_right (by decide) (by omega)
  have : c = 0 ∨ c = 1 := by omega
  rcases this with rfl | rfl <;> omega
 rw [e, ZD (by omega) h2]
 rfl
theorem XF {b : Int} {p : Nat} (hb : 0 ≤ b ∧ b ≤ 1) (hp : p < 8) {d : Int} (hd : d = (p : Int)) : IntKind.u8.wrap (b * 2 ^ (min d.toNat IntKind.u8.bits)) = b * 2 ^ p := by
 have e : min d.toNat IntKind.u8.bits = p := by
  have : IntKind.u8.bits = 8 := rfl
  omega
 rw [e]
 have hp2 : (2 : Nat) ^ p ≤ 2 ^ 7 := Nat.pow_le_pow_right (by decide) (by omega)
 have e2 : ((2 : Int) ^ p) = ((2 ^ p : Nat) : Int) := by simp
 have h0 : (0 : Int) < 2 ^ p := Int.pow_pos (by decide)
 have h3 : b = 0 ∨ b = 1 := by omega
 rcases h3 with e | e <;> rw [e] <;> exact Sl.qP (by omega) (by omega)
end Go.af
namespace Go.ae
open Go.af
def wb (ls : List Int) (s : Int) : List Int := (List.range (jI ls s).toNat).map (fun i => lq ls s / 2 ^ ((jI ls s).toNat - 1 - i) % 2)
def ins (ls syms : List Int) : List Int := (syms.map (· % 330)).filter (fun s => decide (s < ls.length) && ns ls s)
def bits (ls : List Int) (l : List Int) : List Int := l.flatMap (wb ls)
end Go.ae
namespace Go.af
def kQ (x : Int) (n : Nat) : List Int := (List.range n).map (fun i => x / 2 ^ i % 2)
theorem lA {x : Int} {k : Nat} (hk : k ≤ 60) {d : Int} (hd : d = (k : Int)) : x.fdiv (2 ^ (min d.toNat IntKind.i64.bits)) = x / 2 ^ k := by
 have e : min d.toNat IntKind.i64.bits = k := by
  have : IntKind.i64.bits = 64 := rfl
  omega
 rw [e, Int.fdiv_eq_ediv_of_nonneg _ (Int.le_of_lt (Int.pow_pos (by decide)))]
end Go.af

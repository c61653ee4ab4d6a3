/- Walks of functions that the law reaches, and what they lean on; no conditions. -/
import Derived.Test.YtookicfejdbddaaGreatM19
import Derived.Test.YtookicfejdbddaaGreatM3
set_option linter.unusedVariables false
set_option linter.unusedSimpArgs false
set_option linter.unnecessarySimpa false
set_option maxRecDepth 100000
namespace Go.Cr
open Go.Sl
def tmpsOf : List Operand → List Nat
  | [] => []
  | .tmp t :: l => t :: tmpsOf l
  | _ :: l => tmpsOf l
def usedT (all : List Oper) (o : Oper) : List Nat := tmpsOf o.op.operands.toList ++ (match o.guard with | some g => (match dstOf all g.1 with | some d => [d] | none => []) | none => [])
def maskOf (acc : List Nat) : List Nat → Nat
  | [] => 0
  | b :: bs => Nat.lor (Nat.lor (Nat.pow 2 b) (acc.getD b 0)) (maskOf acc bs)
def masks : List Oper → List Nat → List Nat
  | [], acc => acc
  | o :: l, acc => masks l (acc ++ [maskOf acc (bindOn o)])
def anc (M : List Nat) (i j : Nat) : Bool := Nat.testBit (M.getD i 0) j
def pureK : Op → Bool
  | .move _ => true
  | .assign _ => true
  | .pick _ _ _ => true
  | .nilCheck _ => true
  | .load _ _ => true
  | .binOp _ _ _ _ _ => true
  | .unOp _ _ _ => true
  | .makeInterface _ _ => true
  | .makeFunc _ _ _ => true
  | .fieldAddr _ _ _ => true
  | .indexAddr _ _ _ => true
  | .index _ _ _ => true
  | .lookup _ _ _ _ => true
  | .sliceToArrayPointer _ _ => true
  | .field _ _ _ => true
  | .typeAssert _ _ _ _ => true
  | .extract _ _ => true
  | .build _ _ => true
  | .slice _ _ _ _ _ => true
  | .convert _ _ _ => true
  | .call ⟨.builtin .len, _, _⟩ => true
  | .call ⟨.builtin .cap, _, _⟩ => true
  | .call ⟨.builtin .min, _, _⟩ => true
  | .call ⟨.builtin .max, _, _⟩ => true
  | _ => false
def slcK : Op → Bool
  | .slice _ _ _ _ _ => true
  | _ => false
def pureN (nb : Bool) (o : Op) : Bool := pureK o && not (nb && slcK o)
def effs (nb : Bool) (l : List Oper) : List Nat := (List.range l.length).filter fun i => match l[i]? with | some o => not (pureN nb o.op) | none => false
def floatK : Op → Bool
  | .alloc _ => true
  | .makeSlice _ (.const (.int _ (.ofNat n))) (.const (.int _ (.ofNat m))) => Nat.beq n m
  | _ => false
def floatO (o : Oper) : Bool := floatK o.op && Option.isNone o.guard
def FlOp (P : Program) (op : Op) (T sz : Nat) (n : Option Nat) (zs : List Value) : Prop := (n = none ∧ op = .alloc T ∧ zeroB P T = some zs ∧ sz = 1) ∨
  ∃ t m k k' b z, n = some m ∧ op = .makeSlice t (.const (.int k (.ofNat m))) (.const (.int k' (.ofNat m))) ∧ sliceB P t = some (T, sz, b) ∧ zeroB P T = some z ∧ zs = (List.replicate m z).flatten ∧ Nat.ble 1 sz = true ∧ m ≤ 9223372036854775807 ∧ m * b ≤ 281474976710656
theorem FlOp.eq {P : Program} {op : Op} {T sz T' sz' : Nat} {n n' : Option Nat} {zs zs' : List Value} (h : FlOp P op T sz n zs) (k : FlOp P op T' sz' n' zs') : T = T' ∧ sz = sz' ∧ n = n' ∧ zs = zs' := by
  rcases h with ⟨rfl, rfl, h3, rfl⟩ | ⟨t, m, j, j', b, z, rfl, rfl, h3, h4, rfl, h6⟩
  · rcases k with ⟨rfl, k2, k3, rfl⟩ | ⟨_, _, _, _, _, _, _, k2, _⟩
    · cases k2; rw [h3] at k3; cases k3; exact ⟨rfl, rfl, rfl, rfl⟩
    · cases k2
  · rcases k with ⟨_, k2, _⟩ | ⟨_, _, _, _, _, _, rfl, k2, k3, k4, rfl, _⟩
    · cases k2
    · cases k2
      rw [h3] at k3
      cases k3
      rw [h4] at k4
      cases k4
      exact ⟨rfl, rfl, rfl, rfl⟩
def flV (n : Option Nat) (b : Nat) : Value := match n with | none => .pointer (some ⟨b, 0, none⟩) | some n => .slice (some ⟨b, 0, none⟩) n n
def flS (n : Option Nat) (b : Nat) : SV := match n with | none => .ptr b 0 | some n => .sli b 0 n n
theorem flS_den {n : Option Nat} {b k : Nat} {ρ : Ren} (h : ρ k = some (b, 0, 0)) : den ρ (flS n k) = some (flV n b) := by cases n <;> simp [flS, flV, den, h]
theorem flX {C : Ctx} {op : Op} {T sz : Nat} {n : Option Nat} {zs : List Value} {ty : TypeId} {E : Env} {L : List HProp} (h : FlOp C.P op T sz n zs) : OpX C op ty E L (fun v L' => ∃ b post, v = flV n b ∧ L' = Cel b T (zs ++ post) :: L) := by
  rcases h with ⟨rfl, rfl, h3, rfl⟩ | ⟨t, m, j, j', b, z, rfl, rfl, h3, h4, rfl, h5, h6, h7⟩
  · intro d pos aft g a w K Q ha hi hK
    refine x_alloc h3 d pos aft g a w K Q ha hi ?_
    rintro V L' w' ⟨b, rfl, rfl⟩ hi'
    exact hK _ _ w' ⟨b, [], rfl, rfl⟩ (by rw [List.append_nil]; exact hi')
  · intro d pos aft g a w K Q ha hi hK
    refine x_make m m rfl rfl h3 h4 h5 rfl rfl (Nat.le_refl _) h6 h7 d pos aft g a w K Q ha hi ?_
    rintro V L' w' ⟨b, rfl, rfl⟩ hi'
    obtain ⟨b', o, pre, post, e1, e2, e3, e4, e5, hi2⟩ := sl_cel hi' (by simp)
    cases e1
    obtain rfl : pre = [] := List.length_eq_zero_iff.1 e2
    exact hK _ _ w' ⟨b, post, rfl, rfl⟩ (by simpa using hi2)
noncomputable def preN (f : Nat → Bool) (l : List Nat) : Nat := List.rec (motive := fun _ => Nat) 0 (fun x _ ih => Bool.rec 0 (Nat.succ ih) (f x)) l
noncomputable def loN (M ef : List Nat) (i : Nat) : Nat := preN (fun j => anc M i j) ef
noncomputable def hiN (M ef : List Nat) (i : Nat) : Nat := preN (fun j => not (Nat.beq j i) && not (anc M j i)) ef
noncomputable def tidyB (l : List Oper) (M ef : List Nat) : Bool := (List.range l.length).all fun i => (ef.drop (loN M ef i)).all fun j => not (anc M i j)
def slotB (l : List Oper) (M : List Nat) (i : Nat) (t j : Nat) : Bool := match dstOf l j with | some d => not (Nat.beq d t) || Nat.beq j i || (anc M i j && Nat.blt j i) || (anc M j i && Nat.blt i j) | none => true
def dstNe (l : List Oper) (i j : Nat) : Bool := match dstOf l i, dstOf l j with | some d, some d' => Nat.beq i j || not (Nat.beq d d') | _, _ => true
def drawB (l : List Oper) : Bool := (List.range l.length).all fun i => (List.range l.length).all fun j => dstNe l i j && (match l[i]? with | some o => (bindOn o).all (fun b => Nat.blt b i) && (usedT l o).all fun t => slotB l (masks l []) i t j | none => true)
theorem floatO_ok {o : Oper} (h : floatO o = true) : floatK o.op = true ∧ o.guard = none := by
  unfold floatO at h
  rw [Bool.and_eq_true] at h
  exact ⟨h.1, Option.isNone_iff_eq_none.1 h.2⟩
theorem floatK_ok {op : Op} (h : floatK op = true) : (∃ t, op = .alloc t) ∨ ∃ t k k' m, op = .makeSlice t (.const (.int k (.ofNat m))) (.const (.int k' (.ofNat m))) := by
  unfold floatK at h
  split at h
  · exact .inl ⟨_, rfl⟩
  · obtain rfl := Nat.eq_of_beq_eq_true h; exact .inr ⟨_, _, _, _, rfl⟩
  · cases h
theorem preN_lt {f : Nat → Bool} : ∀ {l : List Nat} {q : Nat}, q < preN f l → ∃ x, l[q]? = some x ∧ f x = true
  | [], q, h => absurd h (Nat.not_lt_zero _)
  | x :: l, q, h => by
    have h : q < Bool.rec (motive := fun _ => Nat) 0 (Nat.succ (preN f l)) (f x) := h
    cases hx : f x with
    | false => rw [hx] at h; exact absurd h (Nat.not_lt_zero _)
    | true =>
      rw [hx] at h
      cases q with
      | zero => exact ⟨x, rfl, hx⟩
      | succ q => obtain ⟨y, h1, h2⟩ := preN_lt (l := l) (q := q) (Nat.lt_of_succ_lt_succ h); exact ⟨y, by simpa using h1, h2⟩
theorem preN_at {f : Nat → Bool} : ∀ {l : List Nat} {y : Nat}, l[preN f l]? = some y → f y = false
  | [], y, h => by cases h
  | x :: l, y, h => by
    have h : (x :: l)[Bool.rec (motive := fun _ => Nat) 0 (Nat.succ (preN f l)) (f x)]? = some y := h
    cases hx : f x with
    | false => rw [hx] at h; cases h; exact hx
    | true => rw [hx] at h; exact preN_at (l := l) (by simpa using h)
theorem effs_nodup (nb : Bool) (l : List Oper) : (effs nb l).Nodup := List.Pairwise.filter _ List.nodup_range
theorem effs_one {nb : Bool} {l : List Oper} {i q r : Nat} (h : (effs nb l)[q]? = some i) (k : (effs nb l)[r]? = some i) : q = r := (List.getElem?_inj (List.getElem?_eq_some_iff.1 h).1 (effs_nodup nb l)).1 (h.trans k.symm)
theorem effs_mem {nb : Bool} {l : List Oper} {i : Nat} {o : Oper} (ho : l[i]? = some o) (h : i ∈ effs nb l) : pureN nb o.op = false := by
  have := (List.mem_filter.1 h).2
  rw [ho] at this
  simpa using this
theorem maskOf_bit {acc : List Nat} : ∀ {bs : List Nat} {j : Nat}, Nat.testBit (maskOf acc bs) j = true → ∃ b ∈ bs, j = b ∨ Nat.testBit (acc.getD b 0) j = true
  | [], j, h => by simp [maskOf] at h
  | b :: bs, j, h => by
    have h : Nat.testBit ((2 ^ b ||| acc.getD b 0) ||| maskOf acc bs) j = true := h
    rw [Nat.testBit_or, Nat.testBit_or, Nat.testBit_two_pow] at h
    simp only [Bool.or_eq_true, decide_eq_true_eq] at h
    rcases h with (h | h) | h
    · exact ⟨b, List.mem_cons_self, .inl h.symm⟩
    · exact ⟨b, List.mem_cons_self, .inr h⟩
    · obtain ⟨b', h1, h2⟩ := maskOf_bit h
      exact ⟨b', List.mem_cons_of_mem _ h1, h2⟩
theorem masks_pre : ∀ (l : List Oper) (acc : List Nat), ∃ r, masks l acc = acc ++ r
  | [], acc => ⟨[], by simp [masks]⟩
  | o :: l, acc => by
    obtain ⟨r, h⟩ := masks_pre l (acc ++ [maskOf acc (bindOn o)])
    exact ⟨_, by rw [masks, h, List.append_assoc]⟩
theorem masks_at : ∀ {l : List Oper} {acc : List Nat} {i : Nat} {o : Oper}, l[i]? = some o → ∃ pre, pre <+: masks l acc ∧ (masks l acc).getD (acc.length + i) 0 = maskOf pre (bindOn o)
  | [], acc, i, o, h => by cases h
  | x :: l, acc, 0, o, h => by
    cases h
    obtain ⟨r, hr⟩ := masks_pre l (acc ++ [maskOf acc (bindOn x)])
    refine ⟨acc, ⟨maskOf acc (bindOn x) :: r, by rw [masks, hr]; simp⟩, ?_⟩
    rw [masks, hr, List.getD_eq_getElem?_getD, List.append_assoc, Nat.add_zero, List.getElem?_append_right (Nat.le_refl _)]
    simp
  | x :: l, acc, i + 1, o, h => by
    obtain ⟨pre, h1, h2⟩ := masks_at (l := l) (acc := acc ++ [maskOf acc (bindOn x)]) (i := i) (by simpa using h)
    refine ⟨pre, h1, ?_⟩
    rw [masks, ← h2]
    congr 1
    simp; omega
theorem anc_up {l : List Oper} {i j : Nat} {o : Oper} (ho : l[i]? = some o) (h : anc (masks l []) i j = true) : ∃ b ∈ bindOn o, j = b ∨ anc (masks l []) b j = true := by
  obtain ⟨pre, h1, h2⟩ := masks_at (acc := []) ho
  unfold anc at h
  rw [List.length_nil, Nat.zero_add] at h2
  rw [h2] at h
  obtain ⟨b, hb, h3⟩ := maskOf_bit h
  refine ⟨b, hb, h3.imp id fun h4 => ?_⟩
  unfold anc
  obtain ⟨r, hr⟩ := h1
  rw [← hr]
  have : b < pre.length := by
    rcases Nat.lt_or_ge b pre.length with h | h
    · exact h
    · rw [List.getD_eq_getElem?_getD, List.getElem?_eq_none h] at h4; simp at h4
  rw [List.getD_eq_getElem?_getD, List.getElem?_append_left this, ← List.getD_eq_getElem?_getD]
  exact h4
section
variable {nb : Bool} {C : Ctx} {ty : TypeId} {E : Env} {ρ : Ren} {s s' s1 : St} {v : SV} {V : Value} {F : List HProp} {e e' : En} {w0 w : World} {P : Program}
noncomputable def restr (e : En) (l : List Nat) : En := List.rec (motive := fun _ => En) .nil (fun t _ ih => Option.rec ih (fun v => ih.set t (some v)) (e.get t)) l
theorem restr_get : ∀ {l : List Nat} {t : Nat} {v : SV}, (restr e l).get t = some v → t ∈ l ∧ e.get t = some v
  | [], t, v, h => by
    have h : En.nil.get t = some v := h
    rw [En.get_nil] at h
    cases h
  | u :: l, t, v, h => by
    have h : (Option.rec (motive := fun _ => En) (restr e l) (fun v => (restr e l).set u (some v)) (e.get u)).get t = some v := h
    cases hu : e.get u with
    | none => rw [hu] at h; obtain ⟨h1, h2⟩ := restr_get h; exact ⟨List.mem_cons_of_mem _ h1, h2⟩
    | some x =>
      rw [hu] at h
      have h : ((restr e l).set u (some x)).get t = some v := h
      rw [En.get_set] at h
      by_cases ht : t = u
      · subst ht; rw [if_pos rfl] at h; cases h; exact ⟨List.mem_cons_self, hu⟩
      · rw [if_neg ht] at h; obtain ⟨h1, h2⟩ := restr_get h; exact ⟨List.mem_cons_of_mem _ h1, h2⟩
noncomputable def opG (P : Program) (call : Cl) (all : List Oper) (o : Oper) (e : En) (s : St) : R1 := Option.rec .no (fun w => Bool.rec (.ok .und s) (op1 o.op P call e s) w) (wanted all e o)
theorem opG_ok {call : Cl} {all : List Oper} {o : Oper} (h : opG P call all o e s = .ok v s') : (wanted all e o = some false ∧ v = .und ∧ s' = s) ∨ (wanted all e o = some true ∧ op1 o.op P call e s = .ok v s') := by
  unfold opG at h
  cases hw : wanted all e o with
  | none => rw [hw] at h; cases h
  | some b =>
    rw [hw] at h
    cases b with
    | false => cases h; exact .inl ⟨rfl, rfl, rfl⟩
    | true => exact .inr ⟨rfl, h⟩
def envT (a : Act) (ts : List Nat) : Env := ts.filterMap fun t => match a.tmps[t]? with | some v => some (t, v) | none => none
theorem envT_get {a : Act} : ∀ {ts : List Nat} {d : Nat} {v : Value}, (envT a ts).get d = some v → a.tmps[d]? = some v
  | [], d, v, h => by cases h
  | t :: ts, d, v, h => by
    unfold envT at h
    rw [List.filterMap_cons] at h
    cases ht : a.tmps[t]? with
    | none => rw [ht] at h; exact envT_get h
    | some u =>
      rw [ht] at h
      rw [Env.get_cons] at h
      by_cases e : t = d
      · subst e; rw [if_pos rfl] at h; cases h; exact ht
      · rw [if_neg e] at h; exact envT_get h
theorem envT_mem {a : Act} : ∀ {ts : List Nat} {d : Nat} {v : Value}, d ∈ ts → a.tmps[d]? = some v → (envT a ts).get d = some v
  | [], d, v, h, _ => by cases h
  | t :: ts, d, v, h, hv => by
    unfold envT
    rw [List.filterMap_cons]
    by_cases e : t = d
    · subst e; rw [hv]; simp [Env.get_cons]
    · have h : d ∈ ts := by
        rcases List.mem_cons.1 h with h | h
        · exact absurd h.symm e
        · exact h
      cases ht : a.tmps[t]? with
      | none => exact envT_mem h hv
      | some u => rw [Env.get_cons, if_neg e]; exact envT_mem h hv
theorem envT_agr {a : Act} {ts : List Nat} (h1 : a.defers = C.D) (h2 : a.tmps.size = C.n) : Agr C (envT a ts) a := ⟨h1, h2, fun d v h => envT_get h⟩
structure DHyp (nb : Bool) (C : Ctx) (call : Cl) (l : List Oper) (V : Nat → SV) (S : Nat → St) (Eh : Nat → En) (e0 e' : En) : Prop where
  step : ∀ i o, l[i]? = some o → ∀ k, (pureN nb o.op = true → loN (masks l []) (effs nb l) i ≤ k ∧ k ≤ hiN (masks l []) (effs nb l) i) → (pureN nb o.op = false → (effs nb l)[k]? = some i) → opG C.P call l o (Eh i) (S k) = .ok (V i) (S (k + if pureN nb o.op then 0 else 1))
  place : ∀ i o, l[i]? = some o → pureN nb o.op = false → (effs nb l)[hiN (masks l []) (effs nb l) i]? = some i ∧ (loN (masks l []) (effs nb l) i = hiN (masks l []) (effs nb l) i ∨ floatO o = true)
  tidy : tidyB l (masks l []) (effs nb l) = true
  env : ∀ i o, l[i]? = some o → ∀ t v, (Eh i).get t = some v → t ∈ usedT l o ∧ ((∃ j, j < i ∧ dstOf l j = some t ∧ v = V j) ∨ (e0.get t = some v ∧ ∀ j, j < i → dstOf l j ≠ some t))
  draw : drawB l = true
  dst : l.all (dstB C.n) = true
  fin : ∀ t v, e'.get t = some v → (∃ j, j < l.length ∧ dstOf l j = some t ∧ v = V j) ∨ (e0.get t = some v ∧ ∀ j, j < l.length → dstOf l j ≠ some t)
def pdP (nb : Bool) (C : Ctx) (l : List Oper) (x : Nat × Nat) : HProp := fun w0 h => ∃ i o T sz n zs post, (effs nb l)[x.1]? = some i ∧ l[i]? = some o ∧ FlOp C.P o.op T sz n zs ∧ Cel x.2 T (zs ++ post) w0 h
structure DInv (nb : Bool) (C : Ctx) (l : List Oper) (V : Nat → SV) (S : Nat → St) (e0 : En) (ρ0 : Ren) (F : List HProp) (listed : Array Bool) (a : Act) (w : World) (ρ : Ren) (K : Nat) (pd : List (Nat × Nat)) : Prop where
  size : listed.size = l.length
  cl : ∀ i, done listed i → ∀ j, anc (masks l []) i j = true → done listed j
  defers : a.defers = C.D
  asize : a.tmps.size = C.n
  ext : Ext ρ0 ρ
  fr : Fr ρ (S K).nx
  kpre : ∀ q, q < K → ∃ j, (effs nb l)[q]? = some j ∧ done listed j
  pdn : (pd.map Prod.fst).Nodup
  pdd : ∀ x ∈ pd, K ≤ x.1 ∧ ∃ i o, (effs nb l)[x.1]? = some i ∧ done listed i ∧ l[i]? = some o ∧ floatO o = true ∧ ∃ T sz n zs, FlOp C.P o.op T sz n zs ∧ ∀ t, dstOf l i = some t → a.tmps[t]? = some (flV n x.2)
  pda : ∀ q i, K ≤ q → (effs nb l)[q]? = some i → done listed i → ∃ b, (q, b) ∈ pd
  vals : ∀ i, done listed i → (∀ q, (effs nb l)[q]? = some i → q < K) → ∃ W, den ρ (V i) = some W ∧ ∀ t, dstOf l i = some t → a.tmps[t]? = some W
  olds : ∀ t v, e0.get t = some v → (∀ j, done listed j → dstOf l j ≠ some t) → ∃ W, a.tmps[t]? = some W ∧ den ρ v = some W
  inv : Inv C.w0 (denH ρ (S K).h ++ (pd.map (pdP nb C l) ++ F)) w
theorem dstOf_at {l : List Oper} {i : Nat} {o : Oper} (h : l[i]? = some o) : dstOf l i = o.dst := by unfold dstOf; rw [h]
theorem draw_at {l : List Oper} (h : drawB l = true) {i j : Nat} (hi : i < l.length) (hj : j < l.length) : dstNe l i j = true ∧ ∀ o, l[i]? = some o → (∀ b ∈ bindOn o, b < i) ∧ ∀ t ∈ usedT l o, slotB l (masks l []) i t j = true := by
  have h1 := List.all_eq_true.1 (List.all_eq_true.1 h i (List.mem_range.2 hi)) j (List.mem_range.2 hj)
  rw [Bool.and_eq_true] at h1
  refine ⟨h1.1, fun o ho => ?_⟩
  have h2 := h1.2
  rw [ho] at h2
  rw [Bool.and_eq_true] at h2
  exact ⟨fun b hb => blt_lt (List.all_eq_true.1 h2.1 b hb), fun t ht => List.all_eq_true.1 h2.2 t ht⟩
theorem pureN_ok {o : Op} (h : pureN nb o = true) : pureK o = true := by
  unfold pureN at h; rw [Bool.and_eq_true] at h; exact h.1
theorem float_step {call : Cl} {l : List Oper} {o : Oper} (hf : floatO o = true) (h : opG P call l o e s = .ok v s') : ∃ T sz n z zs, FlOp P o.op T sz n zs ∧ (∀ ρ, dens ρ z = some zs) ∧ v = flS n s.nx ∧ s' = ⟨s.h.set s.nx (some ⟨s.nx, T, sz, true, z⟩), s.nx + 1⟩ ∧ Nat.blt T 4294967296 = true := by
  obtain ⟨hk, h2⟩ := floatO_ok hf
  rcases opG_ok h with ⟨h3, _⟩ | ⟨_, h3⟩
  · unfold wanted at h3; rw [h2] at h3; cases h3
  · rcases floatK_ok hk with ⟨t, h1⟩ | ⟨t, k, k', m, h1⟩
    · rw [h1] at h3
      obtain ⟨z, h4, h5⟩ := wo_ok (show oAlloc t P call e s = .ok v s' from h3)
      obtain ⟨zs, h6, h7⟩ := zeros_ok h4
      obtain ⟨rfl, rfl, hT⟩ := newO_ok h5
      exact ⟨t, 1, none, z, zs, .inl ⟨rfl, h1, h6, rfl⟩, h7, rfl, rfl, hT⟩
    · rw [h1] at h3
      obtain ⟨⟨T, sz, b⟩, g0, h3⟩ := wo_ok (show oMkS t (.const (.int k (.ofNat m))) (.const (.int k' (.ofNat m))) P call e s = .ok v s' from h3)
      obtain ⟨x, g1, h3⟩ := w1_ok h3
      obtain ⟨y, g2, h3⟩ := w1_ok h3
      cases g1
      cases g2
      obtain ⟨n1, g3, h3⟩ := wo_ok h3
      obtain ⟨n2, g4, h3⟩ := wo_ok h3
      cases g3
      cases g4
      obtain ⟨j1, h3⟩ := wb_ok h3
      obtain ⟨_, h3⟩ := wb_ok h3
      obtain ⟨j2, h3⟩ := wb_ok h3
      obtain ⟨j3, h3⟩ := wb_ok h3
      obtain ⟨z, h4, h5⟩ := wo_ok h3
      obtain ⟨zs, h6, h7⟩ := zeros_ok h4
      obtain ⟨rfl, rfl, hT⟩ := newO_ok h5
      rw [Nat.beq_refl]
      exact ⟨T, sz, some m, _, _, .inr ⟨t, m, k, k', b, zs, rfl, h1, g0, h6, rfl, j1, Nat.le_of_ble_eq_true j2, Nat.le_of_ble_eq_true j3⟩, fun ρ => dens_rep (h7 ρ) m, rfl, rfl, hT⟩
theorem DInv.top {call : Cl} {l : List Oper} {V : Nat → SV} {S : Nat → St} {Eh : Nat → En} {e0 e' : En} {ρ0 : Ren} (H : DHyp nb C call l V S Eh e0 e') {listed : Array Bool} {a : Act} {w : World} : ∀ (n : Nat) {ρ : Ren} {K : Nat} {pd : List (Nat × Nat)}, (effs nb l).length - K ≤ n → DInv nb C l V S e0 ρ0 F listed a w ρ K pd →
    ∃ ρ K pd, DInv nb C l V S e0 ρ0 F listed a w ρ K pd ∧ ∀ j, (effs nb l)[K]? = some j → ¬ done listed j := by
  intro n
  induction n with
  | zero =>
    intro ρ K pd hn h
    refine ⟨ρ, K, pd, h, fun j hj => ?_⟩
    have := (List.getElem?_eq_some_iff.1 hj).1
    omega
  | succ n ih =>
    intro ρ K pd hn h
    by_cases hk : ∃ j, (effs nb l)[K]? = some j ∧ done listed j
    · obtain ⟨j, hj, hd⟩ := hk
      have hlt := (List.getElem?_eq_some_iff.1 hj).1
      obtain ⟨b, hb⟩ := h.pda K j (Nat.le_refl _) hj hd
      obtain ⟨_, i, o, p1, p2, p3, p4, T1, sz1, m1, zs1, p6, p5⟩ := h.pdd _ hb
      cases hj.symm.trans p1
      have hp := effs_mem p3 (List.mem_of_getElem? hj)
      have hs := H.step j o p3 K (fun h => by rw [hp] at h; cases h) (fun _ => hj)
      rw [hp] at hs
      obtain ⟨T, sz, m, z, zs, q1, q3, q4, q5, qT⟩ := float_step p4 hs
      obtain ⟨rfl, rfl, rfl, rfl⟩ := q1.eq p6
      simp only [Bool.false_eq_true, if_false] at q5
      obtain ⟨X, Y, rfl⟩ := List.append_of_mem hb
      have hnd := h.pdn
      rw [List.map_append, List.map_cons, List.nodup_append] at hnd
      obtain ⟨n1, n2, n3⟩ := hnd
      obtain ⟨n4, n5⟩ := List.nodup_cons.1 n2
      have hX : ∀ x ∈ X ++ Y, x.1 ≠ K := by
        intro x hx e
        rcases List.mem_append.1 hx with hx | hx
        · exact n3 x.1 (List.mem_map_of_mem hx) K List.mem_cons_self e
        · exact n4 (by have h := List.mem_map_of_mem (f := Prod.fst) hx; rw [e] at h; exact h)
      have k := Ren.put_ext (b, 0, 0) h.fr
      refine ih (ρ := ρ.put (S K).nx (b, 0, 0)) (K := K + 1) (pd := X ++ Y) (by omega) ⟨h.size, h.cl, h.defers, h.asize, h.ext.trans k, by rw [q5]; exact Ren.put_fr _ h.fr, ?_, ?_, ?_, ?_, ?_, ?_, ?_⟩
      · intro q hq
        rcases Nat.eq_or_lt_of_le (Nat.le_of_lt_succ hq) with rfl | hq
        · exact ⟨j, hj, hd⟩
        · exact h.kpre q hq
      · rw [List.map_append, List.nodup_append]
        exact ⟨n1, n5, fun x hx y hy => n3 x hx y (List.mem_cons_of_mem _ hy)⟩
      · intro x hx
        have hx' : x ∈ X ++ (K, b) :: Y := by
          rcases List.mem_append.1 hx with hx | hx
          · exact List.mem_append_left _ hx
          · exact List.mem_append_right _ (List.mem_cons_of_mem _ hx)
        obtain ⟨r1, r2⟩ := h.pdd x hx'
        exact ⟨by have := hX x hx; omega, r2⟩
      · intro q i hq hi hd
        obtain ⟨c, hc⟩ := h.pda q i (by omega) hi hd
        refine ⟨c, ?_⟩
        rcases List.mem_append.1 hc with hc | hc
        · exact List.mem_append_left _ hc
        · rcases List.mem_cons.1 hc with hc | hc
          · cases hc; omega
          · exact List.mem_append_right _ hc
      · intro i hi hq
        by_cases hij : i = j
        · subst hij
          exact ⟨_, by rw [q4]; exact flS_den (Ren.put_self _), p5⟩
        · obtain ⟨W, w1, w2⟩ := h.vals i hi fun q hq' => by
            have := hq q hq'
            rcases Nat.eq_or_lt_of_le (Nat.le_of_lt_succ this) with rfl | h
            · exact absurd (Option.some.inj (hq'.symm.trans hj)) hij
            · exact h
          exact ⟨W, den_ext k w1, w2⟩
      · intro t v hv hne
        obtain ⟨W, w1, w2⟩ := h.olds t v hv hne
        exact ⟨W, w1, den_ext k w2⟩
      · rw [q5]
        have h1 : Inv C.w0 (pdP nb C l (K, b) :: (denH ρ (S K).h ++ ((X ++ Y).map (pdP nb C l) ++ F))) w := h.inv.perm (by
          rw [List.map_append, List.map_append, List.map_cons]
          simp only [List.append_assoc, List.cons_append]
          refine List.Perm.trans ?_ List.perm_middle
          exact List.Perm.append_left _ List.perm_middle)
        obtain ⟨post, h2⟩ : ∃ post, Inv C.w0 (Cel b T (zs ++ post) :: (denH ρ (S K).h ++ ((X ++ Y).map (pdP nb C l) ++ F))) w := by
          obtain ⟨post, _, h2⟩ := Inv.opn (A := pdP nb C l (K, b)) (K := fun _ => True) (B := fun post => [Cel b T (zs ++ post)]) (fun hh hc => by
            obtain ⟨i, o', T', sz', m', zs', post, c1, c2, c3, c5⟩ := hc
            cases hj.symm.trans c1
            cases p3.symm.trans c2
            obtain ⟨rfl, rfl, rfl, rfl⟩ := q1.eq c3
            exact ⟨post, trivial, hh, fun _ => none, fun _ => .inr rfl, Hp.le_refl _, fun _ _ e => (by simp at e), c5, trivial⟩) h1
          exact ⟨post, h2⟩
        exact new_sub (x := (b, 0, 0)) (pre := []) (vs := zs) (post := post) qT h.fr (q3 ρ) rfl (by simp) (fun _ => rfl) _ _ (by simpa using h2)
    · exact ⟨ρ, K, pd, h, fun j hj hd => hk ⟨j, hj, hd⟩⟩
theorem wpAny_draw {call : Cl} (hc : SoundC C.P call) {l : List Oper} {V : Nat → SV} {S : Nat → St} {Eh : Nat → En} {e0 e' : En} {ρ0 : Ren} (H : DHyp nb C call l V S Eh e0 e') {Q : Exit → Act → World → Prop}
    (hQ : ∀ a w, SS C ρ0 F e' (S (effs nb l).length) a w → Q .normal a w) : ∀ (fuel : Nat) (listed : Array Bool) (a : Act) (w : World) (ρ : Ren) (K : Nat) (pd : List (Nat × Nat)), DInv nb C l V S e0 ρ0 F listed a w ρ K pd →
      ((List.range l.length).filter fun i => !listed.getD i true).length ≤ fuel → wpAny C.P .any l.toArray Q fuel listed a w := by
  have dlt : ∀ {listed : Array Bool} {a : Act} {w : World} {ρ : Ren} {K : Nat} {pd : List (Nat × Nat)}, DInv nb C l V S e0 ρ0 F listed a w ρ K pd → ∀ j, done listed j → j < l.length := by
    intro listed a w ρ K pd hinv j hj
    unfold done at hj
    rcases Nat.lt_or_ge j listed.size with h | h
    · rw [hinv.size] at h; exact h
    · rw [Array.getD_eq_getD_getElem?, Array.getElem?_eq_none h] at hj; cases hj
  have fin : ∀ (listed : Array Bool) (a : Act) (w : World) (ρ : Ren) (K : Nat) (pd : List (Nat × Nat)), DInv nb C l V S e0 ρ0 F listed a w ρ K pd → Region.ready .any l.toArray listed = [] → Q .normal a w := by
    intro listed a w ρ K pd hinv hr
    have hall : ∀ i, i < l.length → done listed i := by
      intro i
      induction i using Nat.strongRecOn with
      | _ i ih =>
        intro hi
        have ho : l[i]? = some l[i] := List.getElem?_eq_getElem hi
        have hlt : i < listed.size := by rw [hinv.size]; exact hi
        cases hd : listed.getD i true with
        | true => unfold done; simp [hlt] at hd ⊢; exact hd
        | false =>
          exfalso
          have : i ∈ Region.ready .any l.toArray listed := mem_ready.2 ⟨hd, l[i], by simpa using ho, fun e he hb => ?_⟩
          · rw [hr] at this; cases this
          · have hj : e.on ∈ bindOn l[i] := List.mem_filterMap.2 ⟨e, by simpa using he, by simp [hb]⟩
            have hlt2 := ((draw_at H.draw hi hi).2 _ ho).1 _ hj
            exact ih e.on hlt2 (by omega)
    obtain ⟨ρ, K, pd, hinv, hmax⟩ := hinv.top H _ (Nat.le_refl _)
    have hK : K = (effs nb l).length := by
      apply Nat.le_antisymm
      · rcases Nat.lt_or_ge (effs nb l).length K with h | h
        · obtain ⟨j, hj, _⟩ := hinv.kpre _ h
          have := (List.getElem?_eq_some_iff.1 hj).1
          omega
        · exact h
      · rcases Nat.lt_or_ge K (effs nb l).length with h | h
        · have hj := List.getElem?_eq_getElem h
          exact absurd (hall _ (List.mem_range.1 (List.mem_filter.1 (List.mem_of_getElem? hj)).1)) (hmax _ hj)
        · exact h
    have hpd : pd = [] := by
      cases pd with
      | nil => rfl
      | cons x pd =>
        obtain ⟨h1, i, o, h2, _⟩ := hinv.pdd x List.mem_cons_self
        have := (List.getElem?_eq_some_iff.1 h2).1
        omega
    subst hpd
    have hfr := hinv.fr
    have hin : Inv C.w0 (denH ρ (S K).h ++ F) w := hinv.inv
    rw [hK] at hfr hin
    have key : ∀ t v, e'.get t = some v → ∃ W, a.tmps[t]? = some W ∧ den ρ v = some W := by
      intro t v hv
      rcases H.fin t v hv with ⟨j, hj, h1, rfl⟩ | ⟨h1, h2⟩
      · obtain ⟨W, k1, k2⟩ := hinv.vals j (hall j hj) (fun q hq => by rw [hK]; exact (List.getElem?_eq_some_iff.1 hq).1)
        exact ⟨W, k2 t h1, k1⟩
      · exact hinv.olds t v h1 (fun j hj => h2 j (dlt hinv j hj))
    refine hQ a w ⟨ρ, envT a (List.range a.tmps.size), hinv.ext, fun t v hv => ?_, hfr, envT_agr hinv.defers hinv.asize, hin⟩
    obtain ⟨W, k1, k2⟩ := key t v hv
    have hlt : t < a.tmps.size := by
      rcases Nat.lt_or_ge t a.tmps.size with h | h
      · exact h
      · rw [Array.getElem?_eq_none h] at k1; cases k1
    exact ⟨W, envT_mem (List.mem_range.2 hlt) k1, k2⟩
  intro fuel
  induction fuel with
  | zero =>
    intro listed a w ρ K pd hinv hn
    have hr : Region.ready .any l.toArray listed = [] := by
      apply List.eq_nil_iff_forall_not_mem.2
      intro i hi
      obtain ⟨h1, o, ho, _⟩ := mem_ready.1 hi
      have hlt : i < l.length := by
        have : l[i]? = some o := by simpa using ho
        exact (List.getElem?_eq_some_iff.1 this).1
      have : i ∈ ((List.range l.length).filter fun i => !listed.getD i true) := List.mem_filter.2 ⟨List.mem_range.2 hlt, by simp only [h1]; rfl⟩
      have h0 := List.eq_nil_of_length_eq_zero (Nat.le_zero.1 hn)
      rw [h0] at this
      cases this
    exact ⟨hr, fin listed a w ρ K pd hinv hr⟩
  | succ fuel ih =>
    intro listed a w ρ K pd hinv hn
    refine ⟨fin listed a w ρ K pd hinv, fun i hi => ?_⟩
    obtain ⟨ρ, K, pd, hinv, hmax⟩ := hinv.top H _ (Nat.le_refl _)
    have hlt : i < l.length := by
      obtain ⟨h1, o, ho, _⟩ := mem_ready.1 hi
      have : l[i]? = some o := by simpa using ho
      exact (List.getElem?_eq_some_iff.1 this).1
    have ho : l[i]? = some l[i] := List.getElem?_eq_getElem hlt
    generalize l[i] = o at ho
    obtain ⟨hun, hb⟩ := bind_listed ho hi
    have hnd : ¬ done listed i := fun h => by unfold done at h; rw [getD_both hun] at h; cases h
    have hanc : ∀ j, anc (masks l []) i j = true → done listed j := by
      intro j hj
      obtain ⟨b, h1, h2⟩ := anc_up ho hj
      rcases h2 with rfl | h2
      · exact hb _ h1
      · exact hinv.cl b (hb b h1) j h2
    have hilt : i < listed.size := by rw [hinv.size]; exact hlt
    have hset : ∀ j d, (listed.setIfInBounds i true).getD j d = if j = i then true else listed.getD j d := by
      intro j d
      by_cases hij : i = j
      · subst hij; simp [hilt]
      · rw [getD_set_ne d hij, if_neg (fun e => hij e.symm)]
    have hdone' : ∀ j, done (listed.setIfInBounds i true) j ↔ j = i ∨ done listed j := by
      intro j
      unfold done
      rw [hset]
      by_cases e : j = i <;> simp [e]
    have hcnt : ((List.range l.length).filter fun j => !(listed.setIfInBounds i true).getD j true).length ≤ fuel := by
      have hsub : ((List.range l.length).filter fun j => !(listed.setIfInBounds i true).getD j true) = ((List.range l.length).filter fun j => !listed.getD j true).filter (fun j => !(j == i)) := by
        rw [List.filter_filter]
        apply List.filter_congr
        intro j _
        rw [hset]
        by_cases e : j = i
        · subst e; simp
        · simp [e]
      have hmem : i ∈ ((List.range l.length).filter fun j => !listed.getD j true) := List.mem_filter.2 ⟨List.mem_range.2 hlt, by simp only [hun]; rfl⟩
      rw [hsub]
      have hlt2 : (((List.range l.length).filter fun j => !listed.getD j true).filter (fun j => !(j == i))).length < ((List.range l.length).filter fun j => !listed.getD j true).length :=
        List.length_filter_lt_length_iff_exists.2 ⟨i, hmem, by simp⟩
      omega
    have hlo : loN (masks l []) (effs nb l) i ≤ K := by
      rcases Nat.lt_or_ge K (loN (masks l []) (effs nb l) i) with h | h
      · obtain ⟨x, h1, h2⟩ := preN_lt h
        exact absurd (hanc x h2) (hmax x h1)
      · exact h
    have hhi : K ≤ hiN (masks l []) (effs nb l) i := by
      rcases Nat.lt_or_ge (hiN (masks l []) (effs nb l) i) K with h | h
      · obtain ⟨x, h1, h2⟩ := hinv.kpre _ h
        have h3 := preN_at h1
        simp only [Bool.and_eq_false_iff, Bool.not_eq_false'] at h3
        rcases h3 with h3 | h3
        · exact absurd (Nat.eq_of_beq_eq_true h3 ▸ h2) hnd
        · exact absurd (hinv.cl x h2 i h3) hnd
      · exact h
    have hpre : ∀ j, anc (masks l []) i j = true → ∀ q, (effs nb l)[q]? = some j → q < K := by
      intro j hj q hq
      refine Nat.lt_of_lt_of_le ?_ hlo
      rcases Nat.lt_or_ge q (loN (masks l []) (effs nb l) i) with h | h
      · exact h
      · have h1 := List.all_eq_true.1 (List.all_eq_true.1 H.tidy i (List.mem_range.2 hlt)) j (by
          apply List.mem_of_getElem? (i := q - loN (masks l []) (effs nb l) i)
          rw [List.getElem?_drop, Nat.add_sub_cancel' h]
          exact hq)
        rw [hj] at h1
        cases h1
    have hfits : Fits ρ (Eh i) (envT a (usedT l o)) := by
      intro t v hv
      obtain ⟨h1, h2⟩ := H.env i o ho t v hv
      have : ∃ W, a.tmps[t]? = some W ∧ den ρ v = some W := by
        rcases h2 with ⟨j, hj, h3, rfl⟩ | ⟨h3, h4⟩
        · have hs := ((draw_at H.draw hlt (Nat.lt_trans hj hlt)).2 o ho).2 t h1
          unfold slotB at hs
          rw [h3] at hs
          simp only [Nat.beq_refl, Bool.not_true, Bool.false_or, Bool.or_eq_true, Bool.and_eq_true] at hs
          rcases hs with (hs | hs) | hs
          · have := Nat.eq_of_beq_eq_true hs; omega
          · obtain ⟨W, k1, k2⟩ := hinv.vals j (hanc j hs.1) (hpre j hs.1)
            exact ⟨W, k2 t h3, k1⟩
          · have := blt_lt hs.2; omega
        · refine hinv.olds t v h3 (fun j hj hd => ?_)
          have hjl := dlt hinv j hj
          have hs := ((draw_at H.draw hlt hjl).2 o ho).2 t h1
          unfold slotB at hs
          rw [hd] at hs
          simp only [Nat.beq_refl, Bool.not_true, Bool.false_or, Bool.or_eq_true, Bool.and_eq_true] at hs
          rcases hs with (hs | hs) | hs
          · exact hnd (Nat.eq_of_beq_eq_true hs ▸ hj)
          · exact h4 j (blt_lt hs.2) hd
          · exact hnd (hinv.cl j hj i hs.1)
      obtain ⟨W, k1, k2⟩ := this
      exact ⟨W, envT_mem h1 k1, k2⟩
    have hagr : Agr C (envT a (usedT l o)) a := envT_agr hinv.defers hinv.asize
    have hdst := List.all_eq_true.1 H.dst o (List.mem_of_getElem? ho)
    have hput : ∀ {W U : Value} {j t : Nat}, done listed j → dstOf l j = some t → a.tmps[t]? = some U → (a.put o.dst W).tmps[t]? = some U := by
      intro W U j t hj ht hv
      cases hod : o.dst with
      | none => exact hv
      | some u =>
        have hd := (draw_at H.draw hlt (dlt hinv j hj)).1
        unfold dstNe at hd
        rw [dstOf_at ho, hod, ht] at hd
        have hij : i ≠ j := fun e => hnd (e ▸ hj)
        have hne : u ≠ t := fun e => by
          subst e
          simp only [Nat.beq_refl, Bool.not_true, Bool.or_false] at hd
          exact hij (Nat.eq_of_beq_eq_true hd)
        simp only [Act.put]
        rw [Array.getElem?_setIfInBounds_ne hne]
        exact hv
    have hself : ∀ {W : Value} {t : Nat}, dstOf l i = some t → (a.put o.dst W).tmps[t]? = some W := by
      intro W t ht
      rw [dstOf_at ho] at ht
      unfold dstB at hdst
      rw [ht] at hdst ⊢
      have := blt_lt hdst
      simp [Act.put, hinv.asize, this]
    have hold : ∀ {W : Value} t v, e0.get t = some v → (∀ j, done (listed.setIfInBounds i true) j → dstOf l j ≠ some t) → ∃ U, (a.put o.dst W).tmps[t]? = some U ∧ den ρ v = some U := by
      intro W t v hv hne
      obtain ⟨U, k1, k2⟩ := hinv.olds t v hv (fun j hj => hne j ((hdone' j).2 (.inr hj)))
      refine ⟨U, ?_, k2⟩
      cases hod : o.dst with
      | none => exact k1
      | some u =>
        have hne2 : u ≠ t := fun e => hne i ((hdone' i).2 (.inl rfl)) (by rw [dstOf_at ho, hod, e])
        simp only [Act.put]
        rw [Array.getElem?_setIfInBounds_ne hne2]
        exact k1
    have hcl : ∀ j, done (listed.setIfInBounds i true) j → ∀ q, anc (masks l []) j q = true → done (listed.setIfInBounds i true) q := by
      intro j hj q hq
      rcases (hdone' j).1 hj with rfl | hj
      · exact (hdone' q).2 (.inr (hanc q hq))
      · exact (hdone' q).2 (.inr (hinv.cl j hj q hq))
    have hdef : ∀ W : Value, (a.put o.dst W).defers = C.D := fun W => by cases o.dst <;> exact hinv.defers
    have hsz : ∀ W : Value, (a.put o.dst W).tmps.size = C.n := fun W => by cases o.dst <;> simp [Act.put, hinv.asize]
    have hpd : ∀ {W : Value}, ∀ x ∈ pd, K ≤ x.1 ∧ ∃ j o', (effs nb l)[x.1]? = some j ∧ done (listed.setIfInBounds i true) j ∧ l[j]? = some o' ∧ floatO o' = true ∧ ∃ T sz n zs, FlOp C.P o'.op T sz n zs ∧ ∀ t, dstOf l j = some t → (a.put o.dst W).tmps[t]? = some (flV n x.2) := by
      intro W x hx
      obtain ⟨h1, j, o', h2, h3, h4, h5, T, sz, n, zs, h7, h6⟩ := hinv.pdd x hx
      exact ⟨h1, j, o', h2, (hdone' j).2 (.inr h3), h4, h5, T, sz, n, zs, h7, fun t ht => hput h3 ht (h6 t ht)⟩
    have hnext : ((effs nb l)[K]? = some i ∨ pureN nb o.op = true) → ∀ {σ : Ren} {W : Value} {w' : World}, Ext ρ σ → Fr σ (S (K + if pureN nb o.op then 0 else 1)).nx → den σ (V i) = some W → Inv C.w0 (denH σ (S (K + if pureN nb o.op then 0 else 1)).h ++ (pd.map (pdP nb C l) ++ F)) w' →
        wpAny C.P .any l.toArray Q fuel (listed.setIfInBounds i true) (a.put o.dst W) w' := by
      intro hpl σ W w' m1 m2 m3 m4
      have hi' : ∀ q, (effs nb l)[q]? = some i → q = K ∧ pureN nb o.op = false := by
        intro q hq
        have hp := effs_mem ho (List.mem_of_getElem? hq)
        rcases hpl with h | h
        · exact ⟨effs_one hq h, hp⟩
        · rw [hp] at h; cases h
      refine ih _ _ _ σ _ pd ⟨by simp [hinv.size], hcl, hdef W, hsz W, hinv.ext.trans m1, m2, ?_, hinv.pdn, ?_, ?_, ?_, ?_, m4⟩ hcnt
      · intro q hq
        rcases Nat.lt_or_ge q K with h | h
        · obtain ⟨j, h1, h2⟩ := hinv.kpre q h
          exact ⟨j, h1, (hdone' j).2 (.inr h2)⟩
        · cases hp : pureN nb o.op with
          | true => rw [hp] at hq; simp at hq; omega
          | false =>
            rw [hp] at hq
            simp at hq
            have : q = K := by omega
            subst this
            rcases hpl with h1 | h1
            · exact ⟨i, h1, (hdone' i).2 (.inl rfl)⟩
            · rw [hp] at h1; cases h1
      · intro x hx
        obtain ⟨h1, j, o', h2, h3, h4⟩ := hpd x hx
        refine ⟨?_, j, o', h2, h3, h4⟩
        cases hp : pureN nb o.op with
        | true => simpa using h1
        | false =>
          simp only [Bool.false_eq_true, if_false]
          rcases Nat.eq_or_lt_of_le h1 with h5 | h5
          · exfalso
            obtain ⟨_, j2, o2, g2, g3, _⟩ := hinv.pdd x hx
            rcases hpl with h6 | h6
            · rw [h5] at h6
              cases g2.symm.trans h6
              exact hnd g3
            · rw [hp] at h6; cases h6
          · exact h5
      · intro q j hq hj hd
        rcases (hdone' j).1 hd with rfl | hd
        · obtain ⟨rfl, hp⟩ := hi' q hj
          rw [hp] at hq
          simp at hq
          omega
        · exact hinv.pda q j (Nat.le_trans (Nat.le_add_right _ _) hq) hj hd
      · intro j hj hq
        rcases (hdone' j).1 hj with rfl | hj
        · exact ⟨W, m3, fun t ht => hself ht⟩
        · obtain ⟨U, k1, k2⟩ := hinv.vals j hj fun q hq' => by
            have h1 := hq q hq'
            cases hp : pureN nb o.op with
            | true => rw [hp] at h1; simpa using h1
            | false =>
              rw [hp] at h1
              simp only [Bool.false_eq_true, if_false] at h1
              rcases Nat.eq_or_lt_of_le (Nat.le_of_lt_succ h1) with h2 | h2
              · subst h2
                rcases hpl with h6 | h6
                · cases hq'.symm.trans h6; exact absurd hj hnd
                · rw [hp] at h6; cases h6
              · exact h2
          exact ⟨U, den_ext m1 k1, fun t ht => hput hj ht (k2 t ht)⟩
      · intro t v hv hne
        obtain ⟨U, k1, k2⟩ := hold (W := W) t v hv hne
        exact ⟨U, k1, den_ext m1 k2⟩
    unfold wpOp
    have ho' : l.toArray[i]? = some o := by simpa using ho
    simp only [ho']
    by_cases hpl : (effs nb l)[K]? = some i ∨ pureN nb o.op = true
    · have hstep := H.step i o ho K (fun _ => ⟨hlo, hhi⟩) (fun hp => by
        rcases hpl with h | h
        · exact h
        · rw [hp] at h; cases h)
      rcases opG_ok hstep with ⟨h1, h2, h3⟩ | ⟨h1, h2⟩
      · rw [wanted_ok h1 hfits hagr]
        simp only [Bool.false_eq_true, if_false]
        refine hnext hpl (Ext.refl _) (by rw [h3]; exact hinv.fr) (by rw [h2]; rfl) (by rw [h3]; exact hinv.inv)
      · rw [wanted_ok h1 hfits hagr]
        simp only [if_true]
        refine .inl ?_
        obtain ⟨dst, op, ty, pos, aft, g⟩ := o
        refine op1_ok hc h2 hfits hinv.fr dst pos aft g a w _ Q hagr hinv.inv ?_
        rintro W L' w' ⟨σ, m1, m2, m3, m4⟩ hi'
        exact hnext hpl m1 m2 m3 (m4 _ _ hi')
    · have hp : pureN nb o.op = false := by
        cases hp : pureN nb o.op with
        | false => rfl
        | true => exact absurd (.inr hp) hpl
      obtain ⟨g1, g2⟩ := H.place i o ho hp
      have hne : K ≠ hiN (masks l []) (effs nb l) i := fun e => hpl (.inl (by rw [e]; exact g1))
      rcases g2 with g2 | g2
      · exact absurd (Nat.le_antisymm hhi (g2 ▸ hlo)) hne
      have hKlt : K < hiN (masks l []) (effs nb l) i := Nat.lt_of_le_of_ne hhi hne
      have hstep := H.step i o ho _ (fun h => by rw [hp] at h; cases h) (fun _ => g1)
      obtain ⟨T, sz, m, z, zs, q1, q3, q4, q5, qT⟩ := float_step g2 hstep
      obtain ⟨_, hg⟩ := floatO_ok g2
      rw [wanted_ok (b := true) (E := envT a (usedT l o)) (ρ := ρ) (e := Eh i) (C := C) (by unfold wanted; rw [hg]) hfits hagr]
      simp only [if_true]
      refine .inl ?_
      have hpn : ∀ x ∈ pd, x.1 ≠ hiN (masks l []) (effs nb l) i := by
        intro x hx e
        obtain ⟨_, j2, o2, g3, g4, _⟩ := hinv.pdd x hx
        rw [e] at g3
        cases g3.symm.trans g1
        exact hnd g4
      have hfin : ∀ b post w', Inv C.w0 (Cel b T (zs ++ post) :: (denH ρ (S K).h ++ (pd.map (pdP nb C l) ++ F))) w' → wpAny C.P .any l.toArray Q fuel (listed.setIfInBounds i true) (a.put o.dst (flV m b)) w' := by
        intro b post w' hi'
        refine ih _ _ _ ρ K ((hiN (masks l []) (effs nb l) i, b) :: pd) ⟨by simp [hinv.size], hcl, hdef _, hsz _, hinv.ext, hinv.fr, ?_, ?_, ?_, ?_, ?_, hold, ?_⟩ hcnt
        · intro q hq
          obtain ⟨j, h1, h2⟩ := hinv.kpre q hq
          exact ⟨j, h1, (hdone' j).2 (.inr h2)⟩
        · refine List.nodup_cons.2 ⟨fun h => ?_, hinv.pdn⟩
          obtain ⟨x, h1, h2⟩ := List.mem_map.1 h
          exact hpn x h1 h2
        · intro x hx
          rcases List.mem_cons.1 hx with rfl | hx
          · exact ⟨hhi, i, o, g1, (hdone' i).2 (.inl rfl), ho, g2, T, sz, m, zs, q1, fun t ht => hself ht⟩
          · exact hpd x hx
        · intro q j hq hj hd
          rcases (hdone' j).1 hd with rfl | hd
          · exact ⟨b, by rw [effs_one hj g1]; exact List.mem_cons_self⟩
          · obtain ⟨c, hc⟩ := hinv.pda q j hq hj hd
            exact ⟨c, List.mem_cons_of_mem _ hc⟩
        · intro j hj hq
          rcases (hdone' j).1 hj with rfl | hj
          · have := hq _ g1; omega
          · obtain ⟨U, k1, k2⟩ := hinv.vals j hj hq
            exact ⟨U, k1, fun t ht => hput hj ht (k2 t ht)⟩
        · rw [List.map_cons, List.cons_append]
          refine Inv.perm ?_ List.perm_middle.symm
          exact Inv.imp (fun hh hc => ⟨i, o, T, sz, m, zs, post, g1, ho, q1, hc⟩) hi'
      obtain ⟨dst, op, ty, pos, aft, g⟩ := o
      refine flX q1 dst pos aft g a w _ Q hagr hinv.inv ?_
      rintro W L' w' ⟨b, post, rfl, rfl⟩ hi'
      exact hfin b post w' hi'
theorem wp_draw {call : Cl} (hc : SoundC C.P call) {l : List Oper} {V : Nat → SV} {S : Nat → St} {Eh : Nat → En} {e0 e' : En} {ρ0 : Ren} {id : Nat} (hm : C.P.follows .mixedOrders = true) (H : DHyp nb C call l V S Eh e0 e') {Q : Exit → Act → World → Prop} {a : Act} {w : World}
    (hs : SS C ρ0 F e0 (S 0) a w) (hQ : ∀ a w, SS C ρ0 F e' (S (effs nb l).length) a w → Q .normal a w) : (Code.region id l.toArray true).wp C.P Q a w := by
  obtain ⟨ρ, E, k1, k2, k3, k4, k5⟩ := hs
  refine wp_region_any hm ?_
  rw [show l.toArray.size = l.length by simp]
  have hnone : ∀ j, ¬ done (Array.replicate l.length false) j := fun j h => by
    unfold done at h
    rw [getD_replicate_false'] at h
    cases h
  refine wpAny_draw hc H hQ l.length _ a _ ρ 0 [] ⟨by simp, fun i h => absurd h (hnone i), k4.defers, k4.size, k1, k3, fun q h => absurd h (Nat.not_lt_zero _), List.nodup_nil, fun x h => absurd h (List.not_mem_nil), fun q i _ _ h => absurd h (hnone i), fun i h => absurd h (hnone i), fun t v hv _ => ?_, k5.drew⟩ (Nat.le_trans (List.length_filter_le _ _) (by simp))
  obtain ⟨W, j1, j2⟩ := k2 t v hv
  exact ⟨W, k4.get t W j1, j2⟩
end
end Go.Cr

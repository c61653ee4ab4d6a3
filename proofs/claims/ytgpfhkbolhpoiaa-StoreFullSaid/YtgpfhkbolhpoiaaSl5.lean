/-
  Sl, part 5: a region that draws its order. One obligation an operation; each schedule goes through.
-/
import Derived.Test.YtgpfhkbolhpoiaaSl4
import Derived.Still
namespace Go.Sl
open Go.RowKit (Below)
set_option linter.unusedVariables false
set_option linter.unusedSimpArgs false

def upd (y : Nat → Value) (i : Nat) (v : Value) : Nat → Value := fun j => if j = i then v else y j
theorem upd_same (y : Nat → Value) (i : Nat) (v : Value) : upd y i v i = v := by simp [upd]
theorem upd_ne {y : Nat → Value} {i j : Nat} {v : Value} (h : j ≠ i) : upd y i v j = y j := by simp [upd, h]

/-- What is claimed of exits, where foreseen panics are among them. -/
def QX (C : Ctx) := { Q : Exit → Act → World → Prop // ∀ ch E L a w, Agr C E a → Inv C.w0 L w → C.X ch L → Q (.panic ch) a w }
/-- One operation of a region, its guard looked at. -/
def Step (C : Ctx) (ops : Array Oper) (o : Oper) (E : Env) (L : List HProp) (R : Value → List HProp → Prop) : Prop :=
  ∀ a w (K : Act → World → Prop) (Q : QX C), Agr C E a → Inv C.w0 L w → (∀ v L' w', R v L' → Inv C.w0 L' w' → K (a.put o.dst v) w') →
    (if Region.wanted o (yielded ops a.tmps) then o.wp C.P a w K Q.1 else K (a.put o.dst undef) w)

section
variable {C : Ctx} {ops : Array Oper} {E : Env} {L L' : List HProp} {R : Value → List HProp → Prop} {d : Option Nat} {ty : TypeId} {pos : String} {aft : Array Edge} {op : Op} {v : Value}
theorem st_x (h : OpX C op ty E L R) : Step C ops ⟨d, op, ty, pos, aft, none⟩ E L R := fun a w K Q ha hi hK => by
  rw [if_pos (by simp [Region.wanted])]
  exact h d pos aft none a w K Q.1 ha hi hK
theorem st_v (h : OpV C op ty E L v L') (hR : R v L') : Step C ops ⟨d, op, ty, pos, aft, none⟩ E L R :=
  st_x (fun d pos aft g a w K Q ha hi hK => h.x d pos aft g a w K Q ha hi (fun v' M w' ⟨e1, e2⟩ hi' => hK v' M w' (by subst e1; subst e2; exact hR) hi'))
theorem st_want {j : Nat} {want : Bool} (hg : guardE ops E j = some want) (h : Step C ops ⟨d, op, ty, pos, aft, none⟩ E L R) : Step C ops ⟨d, op, ty, pos, aft, some (j, want)⟩ E L R := fun a w K Q ha hi hK => by
  have hw := guard_spec (o := ⟨d, op, ty, pos, aft, some (j, want)⟩) ha hg rfl
  rw [if_pos (by rw [hw]; simp)]
  have h1 := h a w K Q ha hi hK
  rw [if_pos (by simp [Region.wanted])] at h1
  exact h1
theorem st_pass {j : Nat} {want b : Bool} (hg : guardE ops E j = some b) (hb : (b == want) = false) (hR : R undef L) : Step C ops ⟨d, op, ty, pos, aft, some (j, want)⟩ E L R := fun a w K Q ha hi hK => by
  have hw := guard_spec (o := ⟨d, op, ty, pos, aft, some (j, want)⟩) ha hg rfl
  rw [if_neg (by rw [hw, hb]; simp)]
  exact hK _ _ _ hR hi
end

def bindOn (o : Oper) : List Nat := o.after.toList.filterMap fun e => if Region.binds .any e then some e.on else none

/-- What is said of the operations of a region: which came ahead ('anc'); whose values are looked at ('deps'), and which slots of the frame ('slots'); the number of links of the chain that stand ahead at least ('lo'), at most ('hi'). -/
structure Par where
  anc : List Nat
  deps : List Nat
  slots : List Nat
  lo : Nat
  hi : Nat

def mem (x : Nat) : List Nat → Bool
  | [] => false
  | y :: l => Nat.beq x y || mem x l
theorem mem_iff {x : Nat} : ∀ {l : List Nat}, mem x l = true ↔ x ∈ l
  | [] => by simp [mem]
  | y :: l => by
    simp only [mem, Bool.or_eq_true, List.mem_cons, mem_iff (l := l)]
    constructor
    · rintro (h | h)
      · exact .inl (Nat.eq_of_beq_eq_true h)
      · exact .inr h
    · rintro (h | h)
      · exact .inl (by subst h; simp)
      · exact .inr h

def ancOf (ps : List Par) (i : Nat) : List Nat := match ps[i]? with | some p => p.anc | none => []
def dstIn (l : List Oper) (i : Nat) : Option Nat := match l[i]? with | some o => o.dst | none => none

def noSelect : Op → Bool
  | .select _ _ => false
  | _ => true

/-- The chain: each link has the ones ahead of it among its ancestors. -/
def chainB (ps : List Par) : List Nat → Bool
  | [] => true
  | c :: r => r.all (fun q => mem c (ancOf ps q)) && chainB ps r

def parB (C : Ctx) (l : List Oper) (ps : List Par) (ch : List Nat) (i : Nat) : Bool :=
  match l[i]?, ps[i]? with
  | some o, some p =>
    noSelect o.op &&
    (bindOn o).all (fun j => Nat.blt j i) &&
    p.anc.all (fun j => Nat.blt j i && (mem j (bindOn o) || (bindOn o).any (fun k => mem j (ancOf ps k)))) &&
    p.deps.all (fun j => mem j p.anc) &&
    p.slots.all (fun s => (List.range l.length).all fun j => match dstIn l j with | some t => !(Nat.beq t s) || Nat.beq j i || mem i (ancOf ps j) | none => true) &&
    (ch.take p.lo).all (fun c => mem c p.anc) && Nat.ble p.lo ch.length &&
    (match ch[p.hi]? with | some c => Nat.beq c i || mem i (ancOf ps c) | none => true) &&
    (match o.dst with
      | some t => Nat.blt t C.n && (List.range l.length).all (fun j => Nat.beq j i || (match dstIn l j with | some u => !(Nat.beq u t) | none => true))
      | none => true) &&
    (match o.guard with | some (j, _) => mem j p.deps | none => true)
  | _, _ => false
def regB (C : Ctx) (l : List Oper) (ps : List Par) (ch : List Nat) : Bool :=
  (List.range l.length).all (parB C l ps ch) && chainB ps ch && ch.all (fun c => Nat.blt c l.length) &&
  (List.range ch.length).all (fun p => match ch[p]? with | some c => (match ps[c]? with | some q => Nat.beq q.lo p && Nat.beq q.hi p | none => false) | none => false)

def envOf (l : List Oper) (E0 : Env) (p : Par) (y : Nat → Value) : Env :=
  (p.deps.filterMap fun j => match dstIn l j with | some t => some (t, y j) | none => none) ++ p.slots.filterMap fun s => match E0.get s with | some v => some (s, v) | none => none

def finE (l : List Oper) (y : Nat → Value) : Nat → Env → Env
  | 0, E => E
  | i + 1, E => match dstIn l i with | some t => (t, y i) :: finE l y i E | none => finE l y i E

/-- What operation 'i' owes. -/
def Obl (C : Ctx) (l : List Oper) (E0 : Env) (ps : List Par) (ch : List Nat) (Φ : Nat → (Nat → Value) → Prop) (Lk : Nat → (Nat → Value) → List HProp) (At : Nat → (Nat → Value) → List HProp) (AP : List HProp → Prop) (i : Nat) : Prop :=
  ∀ o p, l[i]? = some o → ps[i]? = some p → ∀ y k A, AP A → k ≤ ch.length → p.lo ≤ k → k ≤ p.hi → (∀ j ∈ p.anc, Φ j y) → (∀ j ∈ p.anc, ∀ B ∈ At j y, B ∈ A) →
    Step C l.toArray o (envOf l E0 p y) (Lk k y ++ A) (fun v L' => ∃ A', AP A' ∧ Φ i (upd y i v) ∧ L'.Perm (Lk (if mem i ch then k + 1 else k) (upd y i v) ++ A') ∧ (∀ B ∈ A, B ∈ A') ∧ (∀ B ∈ At i (upd y i v), B ∈ A'))

theorem getD_replicate_false' (m j : Nat) : (Array.replicate m false).getD j false = false := by
  rcases Nat.lt_or_ge j m with h | h
  · simp [h]
  · simp [h]
theorem getD_both {listed : Array Bool} {i : Nat} (h : listed.getD i true = false) : listed.getD i false = false := by
  rcases Nat.lt_or_ge i listed.size with h' | h'
  · simp [h'] at h ⊢; exact h
  · simp [Array.getElem?_eq_none h'] at h
theorem Env.get_mem {d : Nat} {v : Value} : ∀ {E : Env}, E.get d = some v → (d, v) ∈ E
  | [], h => by cases h
  | (k, u) :: E, h => by
    rw [Env.get_cons] at h
    by_cases e : k = d
    · subst e; simp at h; simp [h]
    · simp only [e, if_false] at h; exact List.mem_cons_of_mem _ (Env.get_mem h)

section
variable {C : Ctx} {l : List Oper} {E0 : Env} {ps : List Par} {ch : List Nat} {Φ : Nat → (Nat → Value) → Prop} {Lk At : Nat → (Nat → Value) → List HProp} {AP : List HProp → Prop}

def done (listed : Array Bool) (j : Nat) : Prop := listed.getD j false = true

structure RInv (C : Ctx) (l : List Oper) (E0 : Env) (ps : List Par) (ch : List Nat) (Φ : Nat → (Nat → Value) → Prop) (Lk At : Nat → (Nat → Value) → List HProp) (AP : List HProp → Prop)
    (listed : Array Bool) (a : Act) (w : World) (y : Nat → Value) (A : List HProp) (k : Nat) : Prop where
  size : listed.size = l.length
  clA : ∀ i, done listed i → ∀ j ∈ ancOf ps i, done listed j
  defers : a.defers = C.D
  asize : a.tmps.size = C.n
  vals : ∀ i, done listed i → ∀ t, dstIn l i = some t → a.tmps[t]? = some (y i)
  olds : ∀ s v, E0.get s = some v → (∀ j, done listed j → dstIn l j ≠ some s) → a.tmps[s]? = some v
  phi : ∀ i, done listed i → Φ i y
  ats : ∀ i, done listed i → ∀ B ∈ At i y, B ∈ A
  kle : k ≤ ch.length
  ap : AP A
  kdone : ∀ q c, q < k → ch[q]? = some c → done listed c
  kun : ∀ q c, k ≤ q → ch[q]? = some c → ¬ done listed c
  inv : Inv C.w0 (Lk k y ++ A) w

theorem chain_anc : ∀ {ch : List Nat}, chainB ps ch = true → ∀ (q r : Nat) (c e : Nat), q < r → ch[q]? = some c → ch[r]? = some e → c ∈ ancOf ps e
  | [], _, q, r, c, e, _, h, _ => by simp at h
  | x :: ch, hc, 0, r + 1, c, e, _, h1, h2 => by
    simp only [chainB, Bool.and_eq_true] at hc
    simp at h1
    subst h1
    have := List.all_eq_true.1 hc.1 e (List.mem_of_getElem? (by simpa using h2))
    exact mem_iff.1 this
  | x :: ch, hc, q + 1, r + 1, c, e, hqr, h1, h2 => by
    simp only [chainB, Bool.and_eq_true] at hc
    exact chain_anc hc.2 q r c e (by omega) (by simpa using h1) (by simpa using h2)

structure ParOk (C : Ctx) (l : List Oper) (ps : List Par) (ch : List Nat) (i : Nat) (o : Oper) (p : Par) : Prop where
  sel : ∀ cs b, o.op ≠ .select cs b
  edges : ∀ j ∈ bindOn o, j < i
  anc : ∀ j ∈ p.anc, j < i ∧ (j ∈ bindOn o ∨ ∃ k ∈ bindOn o, j ∈ ancOf ps k)
  deps : ∀ j ∈ p.deps, j ∈ p.anc
  slots : ∀ s ∈ p.slots, ∀ j, dstIn l j = some s → j = i ∨ i ∈ ancOf ps j
  lo : ∀ c ∈ ch.take p.lo, c ∈ p.anc
  lole : p.lo ≤ ch.length
  hi : ∀ c, ch[p.hi]? = some c → c = i ∨ i ∈ ancOf ps c
  dst : ∀ t, o.dst = some t → t < C.n ∧ ∀ j, j ≠ i → dstIn l j ≠ some t
  guard : ∀ j w, o.guard = some (j, w) → j ∈ p.deps
theorem dstIn_lt {i t : Nat} (h : dstIn l i = some t) : i < l.length := by
  unfold dstIn at h
  split at h
  · rename_i o ho; exact (List.getElem?_eq_some_iff.1 ho).1
  · cases h
theorem parB_spec {i : Nat} (h : parB C l ps ch i = true) : ∃ o p, l[i]? = some o ∧ ps[i]? = some p ∧ ParOk C l ps ch i o p := by
  unfold parB at h
  split at h
  · rename_i o p ho hp
    simp only [Bool.and_eq_true] at h
    obtain ⟨⟨⟨⟨⟨⟨⟨⟨⟨h1, h2⟩, h3⟩, h4⟩, h5⟩, h6⟩, h7⟩, h8⟩, h9⟩, h10⟩ := h
    refine ⟨o, p, ho, hp, ?_, ?_, ?_, ?_, ?_, ?_, Nat.le_of_ble_eq_true h7, ?_, ?_, ?_⟩
    · intro cs b e; rw [e] at h1; cases h1
    · intro j hj; exact blt_lt (List.all_eq_true.1 h2 j hj)
    · intro j hj
      have := List.all_eq_true.1 h3 j hj
      simp only [Bool.and_eq_true, Bool.or_eq_true] at this
      refine ⟨blt_lt this.1, ?_⟩
      rcases this.2 with h | h
      · exact .inl (mem_iff.1 h)
      · obtain ⟨k, hk, hk2⟩ := List.any_eq_true.1 h
        exact .inr ⟨k, hk, mem_iff.1 hk2⟩
    · intro j hj; exact mem_iff.1 (List.all_eq_true.1 h4 j hj)
    · intro s hs j hj
      have := List.all_eq_true.1 (List.all_eq_true.1 h5 s hs) j (List.mem_range.2 (dstIn_lt hj))
      simp only [hj, Bool.or_eq_true] at this
      rcases this with (h | h) | h
      · simp at h
      · exact .inl (Nat.eq_of_beq_eq_true h)
      · exact .inr (mem_iff.1 h)
    · intro c hc; exact mem_iff.1 (List.all_eq_true.1 h6 c hc)
    · intro c hc
      rw [hc] at h8
      simp only [Bool.or_eq_true] at h8
      rcases h8 with h | h
      · exact .inl (Nat.eq_of_beq_eq_true h)
      · exact .inr (mem_iff.1 h)
    · intro t ht
      rw [ht] at h9
      simp only [Bool.and_eq_true] at h9
      refine ⟨blt_lt h9.1, fun j hj e => ?_⟩
      have := List.all_eq_true.1 h9.2 j (List.mem_range.2 (dstIn_lt e))
      simp only [e, Bool.or_eq_true] at this
      rcases this with h | h
      · exact hj (Nat.eq_of_beq_eq_true h)
      · simp at h
    · intro j w hg
      rw [hg] at h10
      exact mem_iff.1 h10
  · cases h

theorem bind_listed {i : Nat} {o : Oper} {listed : Array Bool} (ho : l[i]? = some o) (hr : i ∈ Region.ready .any l.toArray listed) : listed.getD i true = false ∧ ∀ j ∈ bindOn o, done listed j := by
  obtain ⟨h1, o', ho', hall⟩ := mem_ready.1 hr
  have : o' = o := by
    have h2 : l[i]? = some o' := by simpa using ho'
    rw [h2] at ho; exact Option.some.inj ho
  subst this
  refine ⟨h1, fun j hj => ?_⟩
  obtain ⟨e, he, hb⟩ := List.mem_filterMap.1 hj
  split at hb
  · rename_i hbind
    cases hb
    exact hall e (by simpa using he) hbind
  · cases hb

theorem wpAny_par (hok : ∀ i, i < l.length → ∃ o p, l[i]? = some o ∧ ps[i]? = some p ∧ ParOk C l ps ch i o p) (hch : chainB ps ch = true) (hchl : ∀ c ∈ ch, c < l.length)
    (hlink : ∀ q c (p : Par), ch[q]? = some c → ps[c]? = some p → p.lo = q ∧ p.hi = q)
    (hobl : ∀ i, i < l.length → Obl C l E0 ps ch Φ Lk At AP i) (hloc : ∀ i y y', (∀ j, j = i ∨ j ∈ ancOf ps i → y j = y' j) → Φ i y → Φ i y') (hlocA : ∀ i y y', (∀ j, j = i ∨ j ∈ ancOf ps i → y j = y' j) → At i y = At i y')
    {Q : Exit → Act → World → Prop} (hX : ∀ ch E L a w, Agr C E a → Inv C.w0 L w → C.X ch L → Q (.panic ch) a w) (hQ : ∀ a w y A, AP A → (∀ i, i < l.length → Φ i y) → (∀ i, i < l.length → ∀ B ∈ At i y, B ∈ A) → a.defers = C.D → a.tmps.size = C.n → (∀ i, i < l.length → ∀ t, dstIn l i = some t → a.tmps[t]? = some (y i)) →
      (∀ s v, E0.get s = some v → (∀ j, dstIn l j ≠ some s) → a.tmps[s]? = some v) → Inv C.w0 (Lk ch.length y ++ A) w → Q .normal a w) :
    ∀ (fuel : Nat) (listed : Array Bool) (a : Act) (w : World) (y : Nat → Value) (A : List HProp) (k : Nat), RInv C l E0 ps ch Φ Lk At AP listed a w y A k →
      ((List.range l.length).filter fun i => !listed.getD i true).length ≤ fuel → wpAny C.P .any l.toArray Q fuel listed a w := by
  have fin : ∀ (listed : Array Bool) (a : Act) (w : World) (y : Nat → Value) (A : List HProp) (k : Nat), RInv C l E0 ps ch Φ Lk At AP listed a w y A k → Region.ready .any l.toArray listed = [] → Q .normal a w := by
    intro listed a w y A k hinv hr
    have hall : ∀ i, i < l.length → done listed i := by
      intro i
      induction i using Nat.strongRecOn with
      | _ i ih =>
        intro hi
        obtain ⟨o, p, ho, hp, ok⟩ := hok i hi
        have hlt : i < listed.size := by rw [hinv.size]; exact hi
        cases hd : listed.getD i true with
        | true => unfold done; simp [hlt] at hd ⊢; exact hd
        | false =>
          exfalso
          have : i ∈ Region.ready .any l.toArray listed := mem_ready.2 ⟨hd, o, by simpa using ho, fun e he hb => ?_⟩
          · rw [hr] at this; cases this
          · have hj : e.on ∈ bindOn o := List.mem_filterMap.2 ⟨e, by simpa using he, by simp [hb]⟩
            have hlt2 := ok.edges _ hj
            exact ih e.on hlt2 (by omega)
    have hk : k = ch.length := by
      rcases Nat.lt_or_ge k ch.length with h | h
      · exfalso
        have hc : ch[k]? = some ch[k] := List.getElem?_eq_getElem h
        exact hinv.kun k _ (Nat.le_refl _) hc (hall _ (hchl _ (List.getElem_mem h)))
      · exact Nat.le_antisymm hinv.kle h
    subst hk
    refine hQ a w y A hinv.ap (fun i hi => hinv.phi i (hall i hi)) (fun i hi => hinv.ats i (hall i hi)) hinv.defers hinv.asize (fun i hi => hinv.vals i (hall i hi)) (fun s v hs hne => hinv.olds s v hs (fun j _ => hne j)) hinv.inv
  intro fuel
  induction fuel with
  | zero =>
    intro listed a w y A k hinv hn
    have hr : Region.ready .any l.toArray listed = [] := by
      apply List.eq_nil_iff_forall_not_mem.2
      intro i hi
      obtain ⟨h1, o, ho, _⟩ := mem_ready.1 hi
      have hlt : i < l.length := by
        have : l[i]? = some o := by simpa using ho
        exact (List.getElem?_eq_some_iff.1 this).1
      have : i ∈ ((List.range l.length).filter fun i => !listed.getD i true) := List.mem_filter.2 ⟨List.mem_range.2 hlt, by simp only [h1]; rfl⟩
      have h0 := List.eq_nil_of_length_eq_zero (Nat.le_zero.1 hn)
      rw [h0] at this
      cases this
    exact ⟨hr, fin listed a w y A k hinv hr⟩
  | succ fuel ih =>
    intro listed a w y A k hinv hn
    refine ⟨fin listed a w y A k hinv, fun i hi => ?_⟩
    have hlt : i < l.length := by
      obtain ⟨h1, o, ho, _⟩ := mem_ready.1 hi
      have : l[i]? = some o := by simpa using ho
      exact (List.getElem?_eq_some_iff.1 this).1
    obtain ⟨o, p, ho, hp, ok⟩ := hok i hlt
    obtain ⟨hun, hb⟩ := bind_listed ho hi
    have hnd : ¬ done listed i := fun h => by unfold done at h; rw [getD_both hun] at h; cases h
    have hpa : ancOf ps i = p.anc := by simp [ancOf, hp]
    have hanc : ∀ j ∈ p.anc, done listed j := by
      intro j hj
      rcases (ok.anc j hj).2 with h | ⟨k, hk, h⟩
      · exact hb j h
      · exact hinv.clA k (hb k hk) j h
    have hself : ∀ j, done listed j → j ≠ i := fun j hj e => hnd (e ▸ hj)
    have hlo : p.lo ≤ k := by
      rcases Nat.lt_or_ge k p.lo with h | h
      · exfalso
        have hkl : k < ch.length := Nat.lt_of_lt_of_le h ok.lole
        have hc : ch[k]? = some ch[k] := List.getElem?_eq_getElem hkl
        refine hinv.kun k _ (Nat.le_refl _) hc (hanc _ (ok.lo _ ?_))
        exact List.mem_of_getElem? (i := k) (by rw [List.getElem?_take]; simp [h, hc])
      · exact h
    have hhi : k ≤ p.hi := by
      rcases Nat.lt_or_ge p.hi k with h | h
      · exfalso
        have hkl : p.hi < ch.length := Nat.lt_of_lt_of_le h hinv.kle
        have hc : ch[p.hi]? = some ch[p.hi] := List.getElem?_eq_getElem hkl
        have hcd := hinv.kdone p.hi _ h hc
        rcases ok.hi _ hc with e | e
        · exact hnd (e ▸ hcd)
        · exact hnd (hinv.clA _ hcd _ e)
      · exact h
    have hagr : Agr C (envOf l E0 p y) a := by
      refine ⟨hinv.defers, hinv.asize, fun d v hd => ?_⟩
      have hm := Env.get_mem hd
      unfold envOf at hm
      rcases List.mem_append.1 hm with h | h
      · obtain ⟨j, hj, hj2⟩ := List.mem_filterMap.1 h
        split at hj2
        · rename_i t ht
          cases hj2
          exact hinv.vals j (hanc j (ok.deps j hj)) d ht
        · cases hj2
      · obtain ⟨s, hs, hs2⟩ := List.mem_filterMap.1 h
        split at hs2
        · rename_i u hu
          cases hs2
          refine hinv.olds d v hu (fun j hj e => ?_)
          rcases ok.slots d hs j e with h | h
          · exact hself j hj h
          · exact hnd (hinv.clA j hj i h)
        · cases hs2
    have hstep := hobl i hlt o p ho hp y k A hinv.ap hinv.kle hlo hhi (fun j hj => hinv.phi j (hanc j hj)) (fun j hj => hinv.ats j (hanc j hj))
    have hdst : dstIn l i = o.dst := by simp [dstIn, ho]
    have hilt : i < listed.size := by rw [hinv.size]; exact hlt
    have hdone' : ∀ j, done (listed.setIfInBounds i true) j ↔ j = i ∨ done listed j := by
      intro j
      unfold done
      by_cases hij : i = j
      · subst hij; simp [hilt]
      · rw [getD_set_ne false hij]
        constructor
        · exact fun h => .inr h
        · rintro (h | h)
          · exact absurd h.symm hij
          · exact h
    have hcnt : ((List.range l.length).filter fun j => !(listed.setIfInBounds i true).getD j true).length ≤ fuel := by
      have hsub : ((List.range l.length).filter fun j => !(listed.setIfInBounds i true).getD j true) = ((List.range l.length).filter fun j => !listed.getD j true).filter (fun j => !(j == i)) := by
        rw [List.filter_filter]
        apply List.filter_congr
        intro j _
        by_cases hij : i = j
        · subst hij; simp [hilt]
        · rw [getD_set_ne true hij]
          have : (j == i) = false := by simp; exact fun h => hij h.symm
          simp [this]
      have hmem : i ∈ ((List.range l.length).filter fun j => !listed.getD j true) := List.mem_filter.2 ⟨List.mem_range.2 hlt, by simp only [hun]; rfl⟩
      rw [hsub]
      have hlt2 : (((List.range l.length).filter fun j => !listed.getD j true).filter (fun j => !(j == i))).length < ((List.range l.length).filter fun j => !listed.getD j true).length :=
        List.length_filter_lt_length_iff_exists.2 ⟨i, hmem, by simp⟩
      omega
    have hK : ∀ v L' w', (∃ A', AP A' ∧ Φ i (upd y i v) ∧ L'.Perm (Lk (if mem i ch then k + 1 else k) (upd y i v) ++ A') ∧ (∀ B ∈ A, B ∈ A') ∧ (∀ B ∈ At i (upd y i v), B ∈ A')) → Inv C.w0 L' w' →
        wpAny C.P .any l.toArray Q fuel (listed.setIfInBounds i true) (a.put o.dst v) w' := by
      rintro v L' w' ⟨A', h0, h1, h2, h3, h4⟩ hi'
      have hsame : ∀ j, done listed j → ∀ q, q = j ∨ q ∈ ancOf ps j → y q = upd y i v q := by
        intro j hj q hq
        rw [upd_ne]
        rcases hq with rfl | hq
        · exact hself _ hj
        · exact hself _ (hinv.clA j hj q hq)
      refine ih _ _ _ (upd y i v) A' (if mem i ch then k + 1 else k) ⟨by simp [hinv.size], ?_, ?_, ?_, ?_, ?_, ?_, ?_, ?_, h0, ?_, ?_, hi'.perm h2⟩ hcnt
      · intro j hj q hq
        rcases (hdone' j).1 hj with rfl | hj
        · exact (hdone' q).2 (.inr (hanc q (by rw [← hpa]; exact hq)))
        · exact (hdone' q).2 (.inr (hinv.clA j hj q hq))
      · cases o.dst <;> exact hinv.defers
      · cases o.dst <;> simp [Act.put, hinv.asize]
      · intro j hj t ht
        rcases (hdone' j).1 hj with rfl | hj
        · rw [hdst] at ht
          rw [ht, upd_same]
          have := (ok.dst t ht).1
          simp [Act.put, hinv.asize, this]
        · rw [upd_ne (hself j hj)]
          have hv := hinv.vals j hj t ht
          cases hod : o.dst with
          | none => exact hv
          | some u =>
            have hne : u ≠ t := fun e => (ok.dst u hod).2 j (hself j hj) (e ▸ ht)
            simp only [Act.put]
            rw [Array.getElem?_setIfInBounds_ne hne]
            exact hv
      · intro s v' hs hne
        have hv := hinv.olds s v' hs (fun j hj => hne j ((hdone' j).2 (.inr hj)))
        cases hod : o.dst with
        | none => exact hv
        | some u =>
          have hne2 : u ≠ s := fun e => hne i ((hdone' i).2 (.inl rfl)) (by rw [hdst, hod, e])
          simp only [Act.put]
          rw [Array.getElem?_setIfInBounds_ne hne2]
          exact hv
      · intro j hj
        rcases (hdone' j).1 hj with rfl | hj
        · exact h1
        · exact hloc j y _ (hsame j hj) (hinv.phi j hj)
      · intro j hj B hB
        rcases (hdone' j).1 hj with rfl | hj
        · exact h4 B hB
        · rw [← hlocA j y _ (hsame j hj)] at hB
          exact h3 B (hinv.ats j hj B hB)
      · have := hinv.kle
        by_cases hm : mem i ch = true
        · rw [if_pos hm]
          obtain ⟨q, hq⟩ := List.getElem?_of_mem (mem_iff.1 hm)
          have := (List.getElem?_eq_some_iff.1 hq).1
          obtain ⟨e1, e2⟩ := hlink q i p hq hp
          omega
        · rw [if_neg hm]; exact this
      · intro q c hq hc
        by_cases hm : mem i ch = true
        · rw [if_pos hm] at hq
          obtain ⟨q', hq'⟩ := List.getElem?_of_mem (mem_iff.1 hm)
          obtain ⟨e1, e2⟩ := hlink q' i p hq' hp
          by_cases e : q = k
          · have : q = q' := by omega
            subst this
            rw [hq'] at hc
            cases hc
            exact (hdone' i).2 (.inl rfl)
          · exact (hdone' c).2 (.inr (hinv.kdone q c (by omega) hc))
        · rw [if_neg hm] at hq
          exact (hdone' c).2 (.inr (hinv.kdone q c hq hc))
      · intro q c hq hc hdc
        rcases (hdone' c).1 hdc with e | hdc'
        · subst e
          have hm : mem c ch = true := mem_iff.2 (List.mem_of_getElem? hc)
          rw [if_pos hm] at hq
          obtain ⟨e1, e2⟩ := hlink q c p hc hp
          omega
        · refine hinv.kun q c ?_ hc hdc'
          split at hq <;> omega
    have h5 := hstep a w (wpAny C.P .any l.toArray Q fuel (listed.setIfInBounds i true)) ⟨Q, hX⟩ hagr hinv.inv hK
    unfold wpOp
    have ho' : l.toArray[i]? = some o := by simpa using ho
    simp only [ho']
    by_cases hw : Region.wanted o (yielded l.toArray a.tmps) = true
    · rw [if_pos hw] at h5 ⊢; exact .inl h5
    · rw [if_neg hw] at h5 ⊢; exact h5

/-- **A region that draws its order.** -/
theorem w_par {Q : QT} {id : Nat} (ps : List Par) (ch : List Nat) (Φ : Nat → (Nat → Value) → Prop) (Lk At : Nat → (Nat → Value) → List HProp) (AP : List HProp → Prop) {A0 : List HProp} {L : List HProp} {y0 : Nat → Value}
    (hm : C.P.follows .mixedOrders = true) (hB : regB C l ps ch = true) (h0 : L.Perm (Lk 0 y0 ++ A0)) (hap : AP A0)
    (hloc : ∀ i y y', (∀ j, j = i ∨ j ∈ ancOf ps i → y j = y' j) → Φ i y → Φ i y') (hlocA : ∀ i y y', (∀ j, j = i ∨ j ∈ ancOf ps i → y j = y' j) → At i y = At i y')
    (hobl : ∀ i, i < l.length → Obl C l E0 ps ch Φ Lk At AP i)
    (k : ∀ y A, AP A → (∀ i, i < l.length → Φ i y) → (∀ i, i < l.length → ∀ B ∈ At i y, B ∈ A) → Q .normal (finE l y l.length E0) (Lk ch.length y ++ A)) (hX : ∀ ch E L, C.X ch L → Q (.panic ch) E L := by exact fun _ _ _ h => h) : Wp C (.region id l.toArray true) Q E0 L := by
  intro a w ha hi
  unfold regB at hB
  simp only [Bool.and_eq_true] at hB
  obtain ⟨⟨⟨h1, h2⟩, h3⟩, h4⟩ := hB
  have hok : ∀ i, i < l.length → ∃ o p, l[i]? = some o ∧ ps[i]? = some p ∧ ParOk C l ps ch i o p := fun i hi => parB_spec (List.all_eq_true.1 h1 i (List.mem_range.2 hi))
  have hchl : ∀ c ∈ ch, c < l.length := fun c hc => blt_lt (List.all_eq_true.1 h3 c hc)
  have hlink : ∀ q c (p : Par), ch[q]? = some c → ps[c]? = some p → p.lo = q ∧ p.hi = q := by
    intro q c p hq hp
    have := List.all_eq_true.1 h4 q (List.mem_range.2 (List.getElem?_eq_some_iff.1 hq).1)
    simp only [hq, hp, Bool.and_eq_true] at this
    exact ⟨Nat.eq_of_beq_eq_true this.1, Nat.eq_of_beq_eq_true this.2⟩
  refine wp_region_any hm ?_
  have hs : l.toArray.size = l.length := by simp
  rw [hs]
  refine wpAny_par (E0 := E0) (Φ := Φ) (Lk := Lk) (At := At) (AP := AP) hok h2 hchl hlink hobl hloc hlocA (fun ch E L a w h1 h2 h3 => ⟨E, L, h1, h2, hX ch E L h3⟩) ?_ l.length (Array.replicate l.length false) a _ y0 A0 0 ?_ ?_
  · intro a w y A p0 p1 p2 p3 p4 p5 p6 p7
    refine ⟨_, _, ⟨p3, p4, ?_⟩, p7, k y A p0 p1 p2⟩
    have key : ∀ (n : Nat), n ≤ l.length → ∀ d v, (finE l y n E0).get d = some v → (∃ i, i < n ∧ dstIn l i = some d ∧ v = y i) ∨ (E0.get d = some v ∧ ∀ i, i < n → dstIn l i ≠ some d) := by
      intro n
      induction n with
      | zero => intro _ d v h; exact .inr ⟨h, fun i hi => absurd hi (by omega)⟩
      | succ n ih =>
        intro hn d v h
        simp only [finE] at h
        split at h
        · rename_i t ht
          rw [Env.get_cons] at h
          by_cases e : t = d
          · subst e; simp at h; exact .inl ⟨n, by omega, ht, h.symm⟩
          · simp only [e, if_false] at h
            rcases ih (by omega) d v h with ⟨i, hi, h1, h2⟩ | ⟨h1, h2⟩
            · exact .inl ⟨i, by omega, h1, h2⟩
            · refine .inr ⟨h1, fun i hi => ?_⟩
              by_cases e2 : i = n
              · subst e2; rw [ht]; intro e3; cases e3; exact e rfl
              · exact h2 i (by omega)
        · rename_i ht
          rcases ih (by omega) d v h with ⟨i, hi, h1, h2⟩ | ⟨h1, h2⟩
          · exact .inl ⟨i, by omega, h1, h2⟩
          · refine .inr ⟨h1, fun i hi => ?_⟩
            by_cases e2 : i = n
            · subst e2; rw [ht]; simp
            · exact h2 i (by omega)
    intro d v h
    rcases key l.length (Nat.le_refl _) d v h with ⟨i, hi, h1, rfl⟩ | ⟨h1, h2⟩
    · exact p5 i hi d h1
    · exact p6 d v h1 (fun j hj => h2 j (dstIn_lt hj) hj)
  · have hnone : ∀ j, ¬ done (Array.replicate l.length false) j := fun j h => by
      unfold done at h
      rw [getD_replicate_false'] at h
      cases h
    exact ⟨by simp, fun i h => absurd h (hnone i), ha.defers, ha.size, fun i h => absurd h (hnone i), fun s v hs _ => ha.get s v hs, fun i h => absurd h (hnone i), fun i h => absurd h (hnone i), Nat.zero_le _, hap, fun q c hq => absurd hq (by omega), fun q c _ _ h => hnone c h, by
      have := hi.drew
      exact this.perm h0⟩
  · exact Nat.le_trans (List.length_filter_le _ _) (by simp)
end
end Go.Sl

/- Walks of functions that the law reaches, and what they lean on; no conditions. -/
import Derived.Test.YtmbljkghkcgejaaGreatSl12
set_option linter.unusedVariables false
set_option linter.unusedSimpArgs false
set_option maxRecDepth 100000
namespace Go.Sl
open Go.RowKit (Below)
structure Tok where
 a : Yv → HProp
 by_ : Option Nat
 use : Option Nat
 rd : List Nat
def isO (o : Option Nat) (i : Nat) : Bool := match o with | some j => Nat.beq j i | none => false
theorem isO_iff {o : Option Nat} {i : Nat} : isO o i = true ↔ o = some i := by
 unfold isO
 cases o with
 | none => simp
 | some j =>
  constructor
  ·intro h; rw [Nat.eq_of_beq_eq_true h]
  ·intro h; cases h; exact Nat.beq_refl _
def consT (ts : List Tok) (i : Nat) : List Tok := ts.filter fun t => isO t.use i
def readT (ts : List Tok) (i : Nat) : List Tok := ts.filter fun t => mem i t.rd
def prodT (ts : List Tok) (i : Nat) : List Tok := ts.filter fun t => isO t.by_ i
def endT (ts : List Tok) : List Tok := ts.filter fun t => t.use.isNone
def beginT (ts : List Tok) : List Tok := ts.filter fun t => t.by_.isNone
def atY (ts : List Tok) (y : Yv) : List HProp := ts.map fun t => t.a y
def liveB (listed : Array Bool) (t : Tok) : Bool :=
 (match t.by_ with | some p => listed.getD p false | none => true) && (match t.use with | some c => !(listed.getD c false) | none => true)
def aheadB (ps : List Par) (t : Tok) (i : Nat) : Bool := match t.by_ with | some p => mem p (ancOf ps i) | none => true
def tokB (ps : List Par) (n : Nat) (t : Tok) : Bool :=
 (match t.use with | some c => aheadB ps t c && Nat.blt c n | none => true) && (match t.by_ with | some p => Nat.blt p n | none => true) &&
 t.rd.all (fun i => aheadB ps t i && Nat.blt i n && (match t.use with | some c => mem i (ancOf ps c) | none => true))
def netParB (C : Ctx) (l : List Oper) (ps : List Par) (i : Nat) : Bool := parB C l ps [] i
def netB (C : Ctx) (l : List Oper) (ps : List Par) (ts : List Tok) : Bool := (List.range l.length).all (parB C l ps []) && ts.all (tokB ps l.length)
structure TokOk (ps : List Par) (n : Nat) (t : Tok) : Prop where
 use : ∀ c, t.use = some c → c < n ∧ ∀ p, t.by_ = some p → p ∈ ancOf ps c
 by_ : ∀ p, t.by_ = some p → p < n
 rd : ∀ i, i ∈ t.rd → (∀ p, t.by_ = some p → p ∈ ancOf ps i) ∧ i < n ∧ ∀ c, t.use = some c → i ∈ ancOf ps c
theorem tokB_spec {ps : List Par} {n : Nat} {t : Tok} (h : tokB ps n t = true) : TokOk ps n t := by
 unfold tokB at h
 simp only [Bool.and_eq_true] at h
 obtain ⟨⟨h1, h2⟩, h3⟩ := h
 have ah : ∀ i, aheadB ps t i = true → ∀ p, t.by_ = some p → p ∈ ancOf ps i := by
  intro i hi p hp
  unfold aheadB at hi
  rw [hp] at hi
  exact mem_iff.1 hi
 refine ⟨fun c hc => ?_, fun p hp => ?_, fun i hi => ?_⟩
 ·rw [hc] at h1
  simp only [Bool.and_eq_true] at h1
  exact ⟨blt_lt h1.2, ah c h1.1⟩
 ·rw [hp] at h2; exact blt_lt h2
 ·have := List.all_eq_true.1 h3 i hi
  simp only [Bool.and_eq_true] at this
  refine ⟨ah i this.1.1, blt_lt this.1.2, fun c hc => ?_⟩
  have h4 := this.2
  rw [hc] at h4
  exact mem_iff.1 h4
theorem filter_split {α : Type} (p : α → Bool) (l : List α) : l.Perm (l.filter p ++ l.filter (fun x => !p x)) := (List.filter_append_perm p l).symm
section
variable {C : Ctx} {l : List Oper} {E0 : Env} {ps : List Par} {ts : List Tok} {Φ : Nat → Yv → Prop} {A : List HProp}
structure NInv (C : Ctx) (l : List Oper) (E0 : Env) (ps : List Par) (ts : List Tok) (Φ : Nat → Yv → Prop) (A : List HProp) (listed : Array Bool) (a : Act) (w : World) (y : Yv) : Prop where
 size : listed.size = l.length
 clA : ∀ i, done listed i → ∀ j ∈ ancOf ps i, done listed j
 defers : a.defers = C.D
 asize : a.tmps.size = C.n
 vals : ∀ i, done listed i → ∀ t, dstIn l i = some t → a.tmps[t]? = some (y i)
 olds : ∀ s v, E0.get s = some v → (∀ j, done listed j → dstIn l j ≠ some s) → a.tmps[s]? = some v
 phi : ∀ i, done listed i → Φ i y
 inv : Inv C.w0 (atY (ts.filter (liveB listed)) y ++ A) w
def OblN (C : Ctx) (l : List Oper) (E0 : Env) (ps : List Par) (ts : List Tok) (A0 : List HProp) (Φ : Nat → Yv → Prop) (i : Nat) : Prop :=
 ∀ o p, l[i]? = some o → ps[i]? = some p → ∀ y M, (∀ j ∈ p.anc, Φ j y) →
  Step C l.toArray o (envOf l E0 p y) (atY (consT ts i) y ++ (atY (readT ts i) y ++ (M ++ A0))) (fun v L' => Φ i (upd y i v) ∧ L'.Perm (atY (prodT ts i) (upd y i v) ++ (atY (readT ts i) y ++ (M ++ A0))))
theorem wpAny_net (hok : ∀ i, i < l.length → ∃ o p, l[i]? = some o ∧ ps[i]? = some p ∧ ParOk C l ps [] i o p) (htok : ∀ t ∈ ts, TokOk ps l.length t) (hlen : ps.length = l.length)
  (hobl : ∀ i, i < l.length → OblN C l E0 ps ts A Φ i) (hloc : ∀ i y y', (∀ j, j = i ∨ j ∈ ancOf ps i → y j = y' j) → Φ i y → Φ i y')
  (hlocT : ∀ t ∈ ts, ∀ y y' : Yv, (∀ p, t.by_ = some p → ∀ j, j = p ∨ j ∈ ancOf ps p → y j = y' j) → t.a y = t.a y')
  {Q : Exit → Act → World → Prop} (hX : ∀ ch E L a w, Agr C E a → Inv C.w0 L w → C.X ch L → Q (.panic ch) a w) (hQ : ∀ a w y, (∀ i, i < l.length → Φ i y) → a.defers = C.D → a.tmps.size = C.n → (∀ i, i < l.length → ∀ t, dstIn l i = some t → a.tmps[t]? = some (y i)) →
   (∀ s v, E0.get s = some v → (∀ j, dstIn l j ≠ some s) → a.tmps[s]? = some v) → Inv C.w0 (atY (endT ts) y ++ A) w → Q .normal a w) :
  ∀ (fuel : Nat) (listed : Array Bool) (a : Act) (w : World) (y : Yv), NInv C l E0 ps ts Φ A listed a w y →
   ((List.range l.length).filter fun i => !listed.getD i true).length ≤ fuel → wpAny C.P .any l.toArray Q fuel listed a w := by
 have fin : ∀ (listed : Array Bool) (a : Act) (w : World) (y : Yv), NInv C l E0 ps ts Φ A listed a w y → Region.ready .any l.toArray listed = [] → Q .normal a w := by
  intro listed a w y hinv hr
  have hall : ∀ i, i < l.length → done listed i := by
   intro i
   induction i using Nat.strongRecOn with
   | _ i ih =>
    intro hi
    obtain ⟨o, p, ho, hp, ok⟩ := hok i hi
    have hlt : i < listed.size := by rw [hinv.size]; exact hi
    cases hd : listed.getD i true with
    | true => unfold done; simp [hlt] at hd ⊢; exact hd
    | false =>
     exfalso
     have : i ∈ Region.ready .any l.toArray listed := mem_ready.2 ⟨hd, o, by simpa using ho, fun e he hb => ?_⟩
     ·rw [hr] at this; cases this
     ·have hj : e.on ∈ bindOn o := List.mem_filterMap.2 ⟨e, by simpa using he, by simp [hb]⟩
      have hlt2 := ok.edges _ hj
      exact ih e.on hlt2 (by omega)
  have hlive : ts.filter (liveB listed) = endT ts := by
   unfold endT
   apply List.filter_congr
   intro t ht
   have hk := htok t ht
   unfold liveB
   have h1 : (match t.by_ with | some p => listed.getD p false | none => true) = true := by
    split
    ·rename_i p hp; exact hall p (hk.by_ p hp)
    ·rfl
   rw [h1, Bool.true_and]
   split
   ·rename_i c hc
    rw [show listed.getD c false = true from hall c (hk.use c hc).1, hc]
    rfl
   ·rename_i hc; rw [hc]; rfl
  have hi := hinv.inv
  rw [hlive] at hi
  exact hQ a w y (fun i hi => hinv.phi i (hall i hi)) hinv.defers hinv.asize (fun i hi => hinv.vals i (hall i hi)) (fun s v hs hne => hinv.olds s v hs (fun j _ => hne j)) hi
 intro fuel
 induction fuel with
 | zero =>
  intro listed a w y hinv hn
  have hr : Region.ready .any l.toArray listed = [] := by
   apply List.eq_nil_iff_forall_not_mem.2
   intro i hi
   obtain ⟨h1, o, ho, _⟩ := mem_ready.1 hi
   have hlt : i < l.length := by
    have : l[i]? = some o := by simpa using ho
    exact (List.getElem?_eq_some_iff.1 this).1
   have : i ∈ ((List.range l.length).filter fun i => !listed.getD i true) := List.mem_filter.2 ⟨List.mem_range.2 hlt, by simp only [h1]; rfl⟩
   have h0 := List.eq_nil_of_length_eq_zero (Nat.le_zero.1 hn)
   rw [h0] at this
   cases this
  exact ⟨hr, fin listed a w y hinv hr⟩
 | succ fuel ih =>
  intro listed a w y hinv hn
  refine ⟨fin listed a w y hinv, fun i hi => ?_⟩
  have hlt : i < l.length := by
   obtain ⟨h1, o, ho, _⟩ := mem_ready.1 hi
   have : l[i]? = some o := by simpa using ho
   exact (List.getElem?_eq_some_iff.1 this).1
  obtain ⟨o, p, ho, hp, ok⟩ := hok i hlt
  obtain ⟨hun, hb⟩ := bind_listed ho hi
  have hnd : ¬ done listed i := fun h => by unfold done at h; rw [getD_both hun] at h; cases h
  have hpa : ancOf ps i = p.anc := by simp [ancOf, hp]
  have hanc : ∀ j ∈ p.anc, done listed j := by
   intro j hj
   rcases (ok.anc j hj).2 with h | ⟨k, hk, h⟩
   ·exact hb j h
   ·exact hinv.clA k (hb k hk) j h
  have hancn : ∀ j, done listed j → i ∉ ancOf ps j := fun j hj hm => hnd (hinv.clA j hj i hm)
  have hself : ∀ j, done listed j → j ≠ i := fun j hj e => hnd (e ▸ hj)
  have hagr : Agr C (envOf l E0 p y) a := by
   refine ⟨hinv.defers, hinv.asize, fun d v hd => ?_⟩
   have hm := Env.get_mem hd
   unfold envOf at hm
   rcases List.mem_append.1 hm with h | h
   ·obtain ⟨j, hj, hj2⟩ := List.mem_filterMap.1 h
    split at hj2
    ·rename_i t ht
     cases hj2
     exact hinv.vals j (hanc j (ok.deps j hj)) d ht
    ·cases hj2
   ·obtain ⟨s, hs, hs2⟩ := List.mem_filterMap.1 h
    split at hs2
    ·rename_i u hu
     cases hs2
     refine hinv.olds d v hu (fun j hj e => ?_)
     rcases ok.slots d hs j e with h | h
     ·exact hself j hj h
     ·exact hnd (hinv.clA j hj i h)
    ·cases hs2
  have hdst : dstIn l i = o.dst := by simp [dstIn, ho]
  have hilt : i < listed.size := by rw [hinv.size]; exact hlt
  have hset : ∀ j d, (listed.setIfInBounds i true).getD j d = if j = i then true else listed.getD j d := by
   intro j d
   by_cases hij : i = j
   ·subst hij; simp [hilt]
   ·rw [getD_set_ne d hij, if_neg (fun e => hij e.symm)]
  have hdone' : ∀ j, done (listed.setIfInBounds i true) j ↔ j = i ∨ done listed j := by
   intro j
   unfold done
   rw [hset]
   by_cases e : j = i <;> simp [e]
  have hcnt : ((List.range l.length).filter fun j => !(listed.setIfInBounds i true).getD j true).length ≤ fuel := by
   have hsub : ((List.range l.length).filter fun j => !(listed.setIfInBounds i true).getD j true) = ((List.range l.length).filter fun j => !listed.getD j true).filter (fun j => !(j == i)) := by
    rw [List.filter_filter]
    apply List.filter_congr
    intro j _
    rw [hset]
    by_cases e : j = i
    ·subst e; simp
    ·simp [e]
   have hmem : i ∈ ((List.range l.length).filter fun j => !listed.getD j true) := List.mem_filter.2 ⟨List.mem_range.2 hlt, by simp only [hun]; rfl⟩
   rw [hsub]
   have hlt2 : (((List.range l.length).filter fun j => !listed.getD j true).filter (fun j => !(j == i))).length < ((List.range l.length).filter fun j => !listed.getD j true).length :=
    List.length_filter_lt_length_iff_exists.2 ⟨i, hmem, by simp⟩
   omega
  let Lv := ts.filter (liveB listed)
  let rest := (Lv.filter (fun t => !(isO t.use i))).filter (fun t => !(mem i t.rd))
  have hirr : i ∉ ancOf ps i := by
   rw [hpa]; intro h; exact absurd (ok.anc i h).1 (Nat.lt_irrefl _)
  have bydone : ∀ t ∈ ts, (∀ q, t.by_ = some q → q ∈ ancOf ps i) → (match t.by_ with | some q => listed.getD q false | none => true) = true := by
   intro t ht h
   split
   ·rename_i q hq; exact hanc q (by rw [← hpa]; exact h q hq)
   ·rfl
  have hcl : ∀ t ∈ ts, isO t.use i = true → liveB listed t = true := by
   intro t ht hu
   have hu := isO_iff.1 hu
   have hk := htok t ht
   unfold liveB
   rw [bydone t ht (hk.use i hu).2, hu]
   have : listed.getD i false = false := getD_both hun
   simp [this]
  have hrl : ∀ t ∈ ts, mem i t.rd = true → liveB listed t = true ∧ isO t.use i = false := by
   intro t ht hr
   have hk := (htok t ht).rd i (mem_iff.1 hr)
   have hnu : isO t.use i = false := by
    cases e : isO t.use i with
    | false => rfl
    | true => exact absurd (hk.2.2 i (isO_iff.1 e)) hirr
   refine ⟨?_, hnu⟩
   unfold liveB
   rw [bydone t ht hk.1, Bool.true_and]
   split
   ·rename_i c hc
    have : listed.getD c false = false := by
     cases e : listed.getD c false with
     | false => rfl
     | true => exact absurd (hk.2.2 c hc) (hancn c e)
    rw [this]; rfl
   ·rfl
  have hf1 : Lv.filter (fun t => isO t.use i) = consT ts i := by
   show (ts.filter _).filter _ = ts.filter _
   rw [List.filter_filter]
   apply List.filter_congr
   intro t ht
   cases e : isO t.use i with
   | false => simp
   | true => simp [hcl t ht e]
  have hf2 : (Lv.filter (fun t => !(isO t.use i))).filter (fun t => mem i t.rd) = readT ts i := by
   show ((ts.filter _).filter _).filter _ = ts.filter _
   rw [List.filter_filter, List.filter_filter]
   apply List.filter_congr
   intro t ht
   cases e : mem i t.rd with
   | false => simp
   | true => obtain ⟨h1, h2⟩ := hrl t ht e; simp [h1, h2]
  have hperm1 : Lv.Perm (consT ts i ++ (readT ts i ++ rest)) := by
   have h1 := filter_split (fun t => isO t.use i) Lv
   have h2 := filter_split (fun t => mem i t.rd) (Lv.filter (fun t => !(isO t.use i)))
   rw [hf1] at h1
   rw [hf2] at h2
   exact h1.trans (List.Perm.append_left _ h2)
  have hperm2 : (ts.filter (liveB (listed.setIfInBounds i true))).Perm (prodT ts i ++ (readT ts i ++ rest)) := by
   have h1 := filter_split (fun t => isO t.by_ i) (ts.filter (liveB (listed.setIfInBounds i true)))
   have e1 : (ts.filter (liveB (listed.setIfInBounds i true))).filter (fun t => isO t.by_ i) = prodT ts i := by
    rw [List.filter_filter]
    apply List.filter_congr
    intro t ht
    cases e : isO t.by_ i with
    | false => simp
    | true =>
     have hbi := isO_iff.1 e
     have hk := htok t ht
     unfold liveB
     rw [hbi]
     simp only [hset, if_true, Bool.true_and]
     split
     ·rename_i c hc
      have hci : i ∈ ancOf ps c := (hk.use c hc).2 i hbi
      have hne : c ≠ i := fun e => hirr (e ▸ hci)
      have : listed.getD c false = false := by
       cases e : listed.getD c false with
       | false => rfl
       | true => exact absurd hci (hancn c e)
      simp [hne, this]
     ·rfl
   have e2 : (ts.filter (liveB (listed.setIfInBounds i true))).filter (fun t => !(isO t.by_ i)) = Lv.filter (fun t => !(isO t.use i)) := by
    show _ = (ts.filter _).filter _
    rw [List.filter_filter, List.filter_filter]
    apply List.filter_congr
    intro t ht
    unfold liveB
    have hb1 : (!(isO t.by_ i) && (match t.by_ with | some p => (listed.setIfInBounds i true).getD p false | none => true)) = (match t.by_ with | some p => listed.getD p false | none => true) := by
     split
     ·rename_i q hq
      rw [hq, hset]
      by_cases e : q = i
      ·subst e
       have : listed.getD q false = false := getD_both hun
       simp [isO, this]
      ·have : isO (some q) i = false := by
        cases h : isO (some q) i with
        | false => rfl
        | true => have := isO_iff.1 h; simp at this; exact absurd this e
       simp [e, this]
     ·rename_i hq; rw [hq]; rfl
    have hu1 : (match t.use with | some c => !((listed.setIfInBounds i true).getD c false) | none => true) = (!(isO t.use i) && (match t.use with | some c => !(listed.getD c false) | none => true)) := by
     split
     ·rename_i c hc
      rw [hc, hset]
      by_cases e : c = i
      ·subst e; simp [isO]
      ·have : isO (some c) i = false := by
        cases h : isO (some c) i with
        | false => rfl
        | true => have := isO_iff.1 h; simp at this; exact absurd this e
       simp [e, this]
     ·rename_i hc; rw [hc]; rfl
    rw [hu1, ← hb1]
    simp only [Bool.and_assoc, Bool.and_left_comm]
   rw [e1, e2] at h1
   have h2 := filter_split (fun t => mem i t.rd) (Lv.filter (fun t => !(isO t.use i)))
   rw [hf2] at h2
   exact h1.trans (List.Perm.append_left _ h2)
  have hsame : ∀ v, ∀ t ∈ ts, liveB listed t = true → t.a (upd y i v) = t.a y := by
   intro v t ht hl
   refine hlocT t ht _ _ (fun q hq j hj => upd_ne ?_)
   have hqd : done listed q := by
    unfold liveB at hl
    rw [hq] at hl
    simp only [Bool.and_eq_true] at hl
    exact hl.1
   rcases hj with rfl | hj
   ·exact hself _ hqd
   ·exact hself _ (hinv.clA q hqd j hj)
  have hrestT : ∀ t ∈ rest, t ∈ ts ∧ liveB listed t = true := by
   intro t ht
   have h1 := (List.mem_filter.1 (List.mem_filter.1 (List.mem_filter.1 ht).1).1)
   exact h1
  have hstep := hobl i hlt o p ho hp y (atY rest y) (fun j hj => hinv.phi j (hanc j hj))
  have hinv1 : Inv C.w0 (atY (consT ts i) y ++ (atY (readT ts i) y ++ (atY rest y ++ A))) w := by
   refine hinv.inv.perm ?_
   have := (List.Perm.map (fun t : Tok => t.a y) hperm1).append_right A
   simpa [atY, List.append_assoc] using this
  have hK : ∀ v L' w', (Φ i (upd y i v) ∧ L'.Perm (atY (prodT ts i) (upd y i v) ++ (atY (readT ts i) y ++ (atY rest y ++ A)))) → Inv C.w0 L' w' → wpAny C.P .any l.toArray Q fuel (listed.setIfInBounds i true) (a.put o.dst v) w' := by
   rintro v L' w' ⟨h1, h2⟩ hi'
   refine ih _ _ _ (upd y i v) ⟨by simp [hinv.size], ?_, ?_, ?_, ?_, ?_, ?_, ?_⟩ hcnt
   ·intro j hj q hq
    rcases (hdone' j).1 hj with rfl | hj
    ·exact (hdone' q).2 (.inr (hanc q (by rw [← hpa]; exact hq)))
    ·exact (hdone' q).2 (.inr (hinv.clA j hj q hq))
   ·cases o.dst <;> exact hinv.defers
   ·cases o.dst <;> simp [Act.put, hinv.asize]
   ·intro j hj t ht
    rcases (hdone' j).1 hj with rfl | hj
    ·rw [hdst] at ht
     rw [ht, upd_same]
     have := (ok.dst t ht).1
     simp [Act.put, hinv.asize, this]
    ·rw [upd_ne (hself j hj)]
     have hv := hinv.vals j hj t ht
     cases hod : o.dst with
     | none => exact hv
     | some u =>
      have hne : u ≠ t := fun e => (ok.dst u hod).2 j (hself j hj) (e ▸ ht)
      simp only [Act.put]
      rw [Array.getElem?_setIfInBounds_ne hne]
      exact hv
   ·intro s v' hs hne
    have hv := hinv.olds s v' hs (fun j hj => hne j ((hdone' j).2 (.inr hj)))
    cases hod : o.dst with
    | none => exact hv
    | some u =>
     have hne2 : u ≠ s := fun e => hne i ((hdone' i).2 (.inl rfl)) (by rw [hdst, hod, e])
     simp only [Act.put]
     rw [Array.getElem?_setIfInBounds_ne hne2]
     exact hv
   ·intro j hj
    rcases (hdone' j).1 hj with rfl | hj
    ·exact h1
    ·refine hloc j y _ (fun q hq => (upd_ne ?_).symm) (hinv.phi j hj)
     rcases hq with rfl | hq
     ·exact hself _ hj
     ·exact hself _ (hinv.clA j hj q hq)
   ·refine (hi'.perm h2).perm ?_
    have hp2 := (List.Perm.map (fun t : Tok => t.a (upd y i v)) hperm2).append_right A
    have er : (readT ts i).map (fun t : Tok => t.a (upd y i v)) = atY (readT ts i) y := List.map_congr_left (fun t ht => by
     have := List.mem_filter.1 ht
     exact hsame v t this.1 (hrl t this.1 this.2).1)
    have er2 : rest.map (fun t : Tok => t.a (upd y i v)) = atY rest y := List.map_congr_left (fun t ht => hsame v t (hrestT t ht).1 (hrestT t ht).2)
    simp only [List.map_append, er, er2] at hp2
    refine List.Perm.trans ?_ hp2.symm
    simp [atY, List.append_assoc]
  have h5 := hstep a w (wpAny C.P .any l.toArray Q fuel (listed.setIfInBounds i true)) ⟨Q, hX⟩ hagr hinv1 hK
  unfold wpOp
  have ho' : l.toArray[i]? = some o := by simpa using ho
  simp only [ho']
  by_cases hw : Region.wanted o (yielded l.toArray a.tmps) = true
  ·rw [if_pos hw] at h5 ⊢; exact .inl h5
  ·rw [if_neg hw] at h5 ⊢; exact h5
theorem w_net0 {Q : QT} {id : Nat} (ps : List Par) (ts : List Tok) (Φ : Nat → Yv → Prop) {L : List HProp}
  (hm : C.P.follows .mixedOrders = true) (hB : netB C l ps ts = true) (hlen : ps.length = l.length) (h0 : ∃ y0, L.Perm (atY (beginT ts) y0 ++ A))
  (hloc : ∀ i y y', (∀ j, j = i ∨ j ∈ ancOf ps i → y j = y' j) → Φ i y → Φ i y')
  (hlocT : ∀ t ∈ ts, ∀ y y' : Yv, (∀ p, t.by_ = some p → ∀ j, j = p ∨ j ∈ ancOf ps p → y j = y' j) → t.a y = t.a y')
  (hobl : ∀ i, i < l.length → OblN C l E0 ps ts A Φ i)
  (k : ∀ y, (∀ i, i < l.length → Φ i y) → Q .normal (finE l y l.length E0) (atY (endT ts) y ++ A)) (hX : ∀ ch E L, C.X ch L → Q (.panic ch) E L := by exact fun _ _ _ h => h) : Wp C (.region id l.toArray true) Q E0 L := by
 intro a w ha hi
 obtain ⟨y0, h0⟩ := h0
 unfold netB at hB
 simp only [Bool.and_eq_true] at hB
 have hok : ∀ i, i < l.length → ∃ o p, l[i]? = some o ∧ ps[i]? = some p ∧ ParOk C l ps [] i o p := fun i hi => parB_spec (List.all_eq_true.1 hB.1 i (List.mem_range.2 hi))
 have htok : ∀ t ∈ ts, TokOk ps l.length t := fun t ht => tokB_spec (List.all_eq_true.1 hB.2 t ht)
 refine wp_region_any hm ?_
 have hs : l.toArray.size = l.length := by simp
 rw [hs]
 refine wpAny_net (E0 := E0) (Φ := Φ) (A := A) hok htok hlen hobl hloc hlocT (fun ch E L a w h1 h2 h3 => ⟨E, L, h1, h2, hX ch E L h3⟩) ?_ l.length (Array.replicate l.length false) a _ y0 ?_ ?_
 ·intro a w y p2 p3 p4 p5 p6 p7
  refine ⟨_, _, ⟨p3, p4, ?_⟩, p7, k y p2⟩
  have key : ∀ (n : Nat), n ≤ l.length → ∀ d v, (finE l y n E0).get d = some v → (∃ i, i < n ∧ dstIn l i = some d ∧ v = y i) ∨ (E0.get d = some v ∧ ∀ i, i < n → dstIn l i ≠ some d) := by
   intro n
   induction n with
   | zero => intro _ d v h; exact .inr ⟨h, fun i hi => absurd hi (by omega)⟩
   | succ n ih =>
    intro hn d v h
    simp only [finE] at h
    split at h
    ·rename_i t ht
     rw [Env.get_cons] at h
     by_cases e : t = d
     ·subst e; simp at h; exact .inl ⟨n, by omega, ht, h.symm⟩
     ·simp only [e, if_false] at h
      rcases ih (by omega) d v h with ⟨i, hi, h1, h2⟩ | ⟨h1, h2⟩
      ·exact .inl ⟨i, by omega, h1, h2⟩
      ·refine .inr ⟨h1, fun i hi => ?_⟩
       by_cases e2 : i = n
       ·subst e2; rw [ht]; intro e3; cases e3; exact e rfl
       ·exact h2 i (by omega)
    ·rename_i ht
     rcases ih (by omega) d v h with ⟨i, hi, h1, h2⟩ | ⟨h1, h2⟩
     ·exact .inl ⟨i, by omega, h1, h2⟩
     ·refine .inr ⟨h1, fun i hi => ?_⟩
      by_cases e2 : i = n
      ·subst e2; rw [ht]; simp
      ·exact h2 i (by omega)
  intro d v h
  rcases key l.length (Nat.le_refl _) d v h with ⟨i, hi, h1, rfl⟩ | ⟨h1, h2⟩
  ·exact p5 i hi d h1
  ·exact p6 d v h1 (fun j hj => h2 j (dstIn_lt hj) hj)
 ·have hnone : ∀ j, ¬ done (Array.replicate l.length false) j := fun j h => by
   unfold done at h
   rw [getD_replicate_false'] at h
   cases h
  have hlive : ts.filter (liveB (Array.replicate l.length false)) = beginT ts := by
   unfold beginT
   apply List.filter_congr
   intro t ht
   unfold liveB
   cases h1 : t.by_ with
   | some q => simp only [getD_replicate_false', Bool.false_and]; rfl
   | none =>
    simp only [Bool.true_and]
    cases h2 : t.use with
    | some c => simp only [getD_replicate_false']; rfl
    | none => rfl
  exact ⟨by simp, fun i h => absurd h (hnone i), ha.defers, ha.size, fun i h => absurd h (hnone i), fun s v hs _ => ha.get s v hs, fun i h => absurd h (hnone i), by
   rw [hlive]
   exact hi.drew.perm h0⟩
 ·exact Nat.le_trans (List.length_filter_le _ _) (by simp)
end
end Go.Sl

/- Walks of functions that the law reaches, and what they lean on; no conditions. -/
import Derived.Test.YtookicfejdbddaaGreatM2
set_option linter.unusedVariables false
set_option linter.unusedSimpArgs false
set_option linter.unnecessarySimpa false
set_option maxRecDepth 100000
namespace Go.Sl
open Go.RowKit (Below)
structure Tok where
  a : Yv → HProp
  by_ : Option Nat
  use : Option Nat
  rd : List Nat
def isO (o : Option Nat) (i : Nat) : Bool := match o with | some j => Nat.beq j i | none => false
theorem isO_iff {o : Option Nat} {i : Nat} : isO o i = true ↔ o = some i := by
  unfold isO
  cases o with
  | none => simp
  | some j =>
    constructor
    · intro h; rw [Nat.eq_of_beq_eq_true h]
    · intro h; cases h; exact Nat.beq_refl _
def consT (ts : List Tok) (i : Nat) : List Tok := ts.filter fun t => isO t.use i
def readT (ts : List Tok) (i : Nat) : List Tok := ts.filter fun t => mem i t.rd
def prodT (ts : List Tok) (i : Nat) : List Tok := ts.filter fun t => isO t.by_ i
def endT (ts : List Tok) : List Tok := ts.filter fun t => t.use.isNone
def beginT (ts : List Tok) : List Tok := ts.filter fun t => t.by_.isNone
def atY (ts : List Tok) (y : Yv) : List HProp := ts.map fun t => t.a y
def liveB (listed : Array Bool) (t : Tok) : Bool :=
  (match t.by_ with | some p => listed.getD p false | none => true) && (match t.use with | some c => !(listed.getD c false) | none => true)
def aheadB (ps : List Par) (t : Tok) (i : Nat) : Bool := match t.by_ with | some p => mem p (ancOf ps i) | none => true
def tokB (ps : List Par) (n : Nat) (t : Tok) : Bool :=
  (match t.use with | some c => aheadB ps t c && Nat.blt c n | none => true) && (match t.by_ with | some p => Nat.blt p n | none => true) &&
  t.rd.all (fun i => aheadB ps t i && Nat.blt i n && (match t.use with | some c => mem i (ancOf ps c) | none => true))
def netParB (C : Ctx) (l : List Oper) (ps : List Par) (i : Nat) : Bool := parB C l ps [] i
def netB (C : Ctx) (l : List Oper) (ps : List Par) (ts : List Tok) : Bool := (List.range l.length).all (parB C l ps []) && ts.all (tokB ps l.length)
structure TokOk (ps : List Par) (n : Nat) (t : Tok) : Prop where
  use : ∀ c, t.use = some c → c < n ∧ ∀ p, t.by_ = some p → p ∈ ancOf ps c
  by_ : ∀ p, t.by_ = some p → p < n
  rd : ∀ i, i ∈ t.rd → (∀ p, t.by_ = some p → p ∈ ancOf ps i) ∧ i < n ∧ ∀ c, t.use = some c → i ∈ ancOf ps c
theorem tokB_spec {ps : List Par} {n : Nat} {t : Tok} (h : tokB ps n t = true) : TokOk ps n t := by
  unfold tokB at h
  simp only [Bool.and_eq_true] at h
  obtain ⟨⟨h1, h2⟩, h3⟩ := h
  have ah : ∀ i, aheadB ps t i = true → ∀ p, t.by_ = some p → p ∈ ancOf ps i := by
    intro i hi p hp
    unfold aheadB at hi
    rw [hp] at hi
    exact mem_iff.1 hi
  refine ⟨fun c hc => ?_, fun p hp => ?_, fun i hi => ?_⟩
  · rw [hc] at h1
    simp only [Bool.and_eq_true] at h1
    exact ⟨blt_lt h1.2, ah c h1.1⟩
  · rw [hp] at h2; exact blt_lt h2
  · have := List.all_eq_true.1 h3 i hi
    simp only [Bool.and_eq_true] at this
    refine ⟨ah i this.1.1, blt_lt this.1.2, fun c hc => ?_⟩
    have h4 := this.2
    rw [hc] at h4
    exact mem_iff.1 h4
theorem filter_split {α : Type} (p : α → Bool) (l : List α) : l.Perm (l.filter p ++ l.filter (fun x => !p x)) := (List.filter_append_perm p l).symm
section
variable {C : Ctx} {l : List Oper} {E0 : Env} {ps : List Par} {ts : List Tok} {Φ : Nat → Yv → Prop} {A : List HProp}
structure NInv (C : Ctx) (l : List Oper) (E0 : Env) (ps : List Par) (ts : List Tok) (Φ : Nat → Yv → Prop) (A : List HProp) (listed : Array Bool) (a : Act) (w : World) (y : Yv) : Prop where
  size : listed.size = l.length
  clA : ∀ i, done listed i → ∀ j ∈ ancOf ps i, done listed j
  defers : a.defers = C.D
  asize : a.tmps.size = C.n
  vals : ∀ i, done listed i → ∀ t, dstIn l i = some t → a.tmps[t]? = some (y i)
  olds : ∀ s v, E0.get s = some v → (∀ j, done listed j → dstIn l j ≠ some s) → a.tmps[s]? = some v
  phi : ∀ i, done listed i → Φ i y
  inv : Inv C.w0 (atY (ts.filter (liveB listed)) y ++ A) w
def OblN (C : Ctx) (l : List Oper) (E0 : Env) (ps : List Par) (ts : List Tok) (A0 : List HProp) (Φ : Nat → Yv → Prop) (i : Nat) : Prop :=
  ∀ o p, l[i]? = some o → ps[i]? = some p → ∀ y M, (∀ j ∈ p.anc, Φ j y) →
    Step C l.toArray o (envOf l E0 p y) (atY (consT ts i) y ++ (atY (readT ts i) y ++ (M ++ A0))) (fun v L' => Φ i (upd y i v) ∧ L'.Perm (atY (prodT ts i) (upd y i v) ++ (atY (readT ts i) y ++ (M ++ A0))))
theorem wpAny_net (hok : ∀ i, i < l.length → ∃ o p, l[i]? = some o ∧ ps[i]? = some p ∧ ParOk C l ps [] i o p) (htok : ∀ t ∈ ts, TokOk ps l.length t) (hlen : ps.length = l.length)
    (hobl : ∀ i, i < l.length → OblN C l E0 ps ts A Φ i) (hloc : ∀ i y y', (∀ j, j = i ∨ j ∈ ancOf ps i → y j = y' j) → Φ i y → Φ i y')
    (hlocT : ∀ t ∈ ts, ∀ y y' : Yv, (∀ p, t.by_ = some p → ∀ j, j = p ∨ j ∈ ancOf ps p → y j = y' j) → t.a y = t.a y')
    {Q : Exit → Act → World → Prop} (hX : ∀ ch E L a w, Agr C E a → Inv C.w0 L w → C.X ch L → Q (.panic ch) a w) (hQ : ∀ a w y, (∀ i, i < l.length → Φ i y) → a.defers = C.D → a.tmps.size = C.n → (∀ i, i < l.length → ∀ t, dstIn l i = some t → a.tmps[t]? = some (y i)) →
      (∀ s v, E0.get s = some v → (∀ j, dstIn l j ≠ some s) → a.tmps[s]? = some v) → Inv C.w0 (atY (endT ts) y ++ A) w → Q .normal a w) :
    ∀ (fuel : Nat) (listed : Array Bool) (a : Act) (w : World) (y : Yv), NInv C l E0 ps ts Φ A listed a w y →
      ((List.range l.length).filter fun i => !listed.getD i true).length ≤ fuel → wpAny C.P .any l.toArray Q fuel listed a w := by
  have fin : ∀ (listed : Array Bool) (a : Act) (w : World) (y : Yv), NInv C l E0 ps ts Φ A listed a w y → Region.ready .any l.toArray listed = [] → Q .normal a w := by
    intro listed a w y hinv hr
    have hall : ∀ i, i < l.length → done listed i := by
      intro i
      induction i using Nat.strongRecOn with
      | _ i ih =>
        intro hi
        obtain ⟨o, p, ho, hp, ok⟩ := hok i hi
        have hlt : i < listed.size := by rw [hinv.size]; exact hi
        cases hd : listed.getD i true with
        | true => unfold done; simp [hlt] at hd ⊢; exact hd
        | false =>
          exfalso
          have : i ∈ Region.ready .any l.toArray listed := mem_ready.2 ⟨hd, o, by simpa using ho, fun e he hb => ?_⟩
          · rw [hr] at this; cases this
          · have hj : e.on ∈ bindOn o := List.mem_filterMap.2 ⟨e, by simpa using he, by simp [hb]⟩
            have hlt2 := ok.edges _ hj
            exact ih e.on hlt2 (by omega)
    have hlive : ts.filter (liveB listed) = endT ts := by
      unfold endT
      apply List.filter_congr
      intro t ht
      have hk := htok t ht
      unfold liveB
      have h1 : (match t.by_ with | some p => listed.getD p false | none => true) = true := by
        split
        · rename_i p hp; exact hall p (hk.by_ p hp)
        · rfl
      rw [h1, Bool.true_and]
      split
      · rename_i c hc
        rw [show listed.getD c false = true from hall c (hk.use c hc).1, hc]
        rfl
      · rename_i hc; rw [hc]; rfl
    have hi := hinv.inv
    rw [hlive] at hi
    exact hQ a w y (fun i hi => hinv.phi i (hall i hi)) hinv.defers hinv.asize (fun i hi => hinv.vals i (hall i hi)) (fun s v hs hne => hinv.olds s v hs (fun j _ => hne j)) hi
  intro fuel
  induction fuel with
  | zero =>
    intro listed a w y hinv hn
    have hr : Region.ready .any l.toArray listed = [] := by
      apply List.eq_nil_iff_forall_not_mem.2
      intro i hi
      obtain ⟨h1, o, ho, _⟩ := mem_ready.1 hi
      have hlt : i < l.length := by
        have : l[i]? = some o := by simpa using ho
        exact (List.getElem?_eq_some_iff.1 this).1
      have : i ∈ ((List.range l.length).filter fun i => !listed.getD i true) := List.mem_filter.2 ⟨List.mem_range.2 hlt, by simp only [h1]; rfl⟩
      have h0 := List.eq_nil_of_length_eq_zero (Nat.le_zero.1 hn)
      rw [h0] at this
      cases this
    exact ⟨hr, fin listed a w y hinv hr⟩
  | succ fuel ih =>
    intro listed a w y hinv hn
    refine ⟨fin listed a w y hinv, fun i hi => ?_⟩
    have hlt : i < l.length := by
      obtain ⟨h1, o, ho, _⟩ := mem_ready.1 hi
      have : l[i]? = some o := by simpa using ho
      exact (List.getElem?_eq_some_iff.1 this).1
    obtain ⟨o, p, ho, hp, ok⟩ := hok i hlt
    obtain ⟨hun, hb⟩ := bind_listed ho hi
    have hnd : ¬ done listed i := fun h => by unfold done at h; rw [getD_both hun] at h; cases h
    have hpa : ancOf ps i = p.anc := by simp [ancOf, hp]
    have hanc : ∀ j ∈ p.anc, done listed j := by
      intro j hj
      rcases (ok.anc j hj).2 with h | ⟨k, hk, h⟩
      · exact hb j h
      · exact hinv.clA k (hb k hk) j h
    have hancn : ∀ j, done listed j → i ∉ ancOf ps j := fun j hj hm => hnd (hinv.clA j hj i hm)
    have hself : ∀ j, done listed j → j ≠ i := fun j hj e => hnd (e ▸ hj)
    have hagr : Agr C (envOf l E0 p y) a := by
      refine ⟨hinv.defers, hinv.asize, fun d v hd => ?_⟩
      have hm := Env.get_mem hd
      unfold envOf at hm
      rcases List.mem_append.1 hm with h | h
      · obtain ⟨j, hj, hj2⟩ := List.mem_filterMap.1 h
        split at hj2
        · rename_i t ht
          cases hj2
          exact hinv.vals j (hanc j (ok.deps j hj)) d ht
        · cases hj2
      · obtain ⟨s, hs, hs2⟩ := List.mem_filterMap.1 h
        split at hs2
        · rename_i u hu
          cases hs2
          refine hinv.olds d v hu (fun j hj e => ?_)
          rcases ok.slots d hs j e with h | h
          · exact hself j hj h
          · exact hnd (hinv.clA j hj i h)
        · cases hs2
    have hdst : dstIn l i = o.dst := by simp [dstIn, ho]
    have hilt : i < listed.size := by rw [hinv.size]; exact hlt
    have hset : ∀ j d, (listed.setIfInBounds i true).getD j d = if j = i then true else listed.getD j d := by
      intro j d
      by_cases hij : i = j
      · subst hij; simp [hilt]
      · rw [getD_set_ne d hij, if_neg (fun e => hij e.symm)]
    have hdone' : ∀ j, done (listed.setIfInBounds i true) j ↔ j = i ∨ done listed j := by
      intro j
      unfold done
      rw [hset]
      by_cases e : j = i <;> simp [e]
    have hcnt : ((List.range l.length).filter fun j => !(listed.setIfInBounds i true).getD j true).length ≤ fuel := by
      have hsub : ((List.range l.length).filter fun j => !(listed.setIfInBounds i true).getD j true) = ((List.range l.length).filter fun j => !listed.getD j true).filter (fun j => !(j == i)) := by
        rw [List.filter_filter]
        apply List.filter_congr
        intro j _
        rw [hset]
        by_cases e : j = i
        · subst e; simp
        · simp [e]
      have hmem : i ∈ ((List.range l.length).filter fun j => !listed.getD j true) := List.mem_filter.2 ⟨List.mem_range.2 hlt, by simp only [hun]; rfl⟩
      rw [hsub]
      have hlt2 : (((List.range l.length).filter fun j => !listed.getD j true).filter (fun j => !(j == i))).length < ((List.range l.length).filter fun j => !listed.getD j true).length :=
        List.length_filter_lt_length_iff_exists.2 ⟨i, hmem, by simp⟩
      omega
    let Lv := ts.filter (liveB listed)
    let rest := (Lv.filter (fun t => !(isO t.use i))).filter (fun t => !(mem i t.rd))
    have hirr : i ∉ ancOf ps i := by
      rw [hpa]; intro h; exact absurd (ok.anc i h).1 (Nat.lt_irrefl _)
    have bydone : ∀ t ∈ ts, (∀ q, t.by_ = some q → q ∈ ancOf ps i) → (match t.by_ with | some q => listed.getD q false | none => true) = true := by
      intro t ht h
      split
      · rename_i q hq; exact hanc q (by rw [← hpa]; exact h q hq)
      · rfl
    have hcl : ∀ t ∈ ts, isO t.use i = true → liveB listed t = true := by
      intro t ht hu
      have hu := isO_iff.1 hu
      have hk := htok t ht
      unfold liveB
      rw [bydone t ht (hk.use i hu).2, hu]
      have : listed.getD i false = false := getD_both hun
      simp [this]
    have hrl : ∀ t ∈ ts, mem i t.rd = true → liveB listed t = true ∧ isO t.use i = false := by
      intro t ht hr
      have hk := (htok t ht).rd i (mem_iff.1 hr)
      have hnu : isO t.use i = false := by
        cases e : isO t.use i with
        | false => rfl
        | true => exact absurd (hk.2.2 i (isO_iff.1 e)) hirr
      refine ⟨?_, hnu⟩
      unfold liveB
      rw [bydone t ht hk.1, Bool.true_and]
      split
      · rename_i c hc
        have : listed.getD c false = false := by
          cases e : listed.getD c false with
          | false => rfl
          | true => exact absurd (hk.2.2 c hc) (hancn c e)
        rw [this]; rfl
      · rfl
    have hf1 : Lv.filter (fun t => isO t.use i) = consT ts i := by
      show (ts.filter _).filter _ = ts.filter _
      rw [List.filter_filter]
      apply List.filter_congr
      intro t ht
      cases e : isO t.use i with
      | false => simp
      | true => simp [hcl t ht e]
    have hf2 : (Lv.filter (fun t => !(isO t.use i))).filter (fun t => mem i t.rd) = readT ts i := by
      show ((ts.filter _).filter _).filter _ = ts.filter _
      rw [List.filter_filter, List.filter_filter]
      apply List.filter_congr
      intro t ht
      cases e : mem i t.rd with
      | false => simp
      | true => obtain ⟨h1, h2⟩ := hrl t ht e; simp [h1, h2]
    have hperm1 : Lv.Perm (consT ts i ++ (readT ts i ++ rest)) := by
      have h1 := filter_split (fun t => isO t.use i) Lv
      have h2 := filter_split (fun t => mem i t.rd) (Lv.filter (fun t => !(isO t.use i)))
      rw [hf1] at h1
      rw [hf2] at h2
      exact h1.trans (List.Perm.append_left _ h2)
    have hperm2 : (ts.filter (liveB (listed.setIfInBounds i true))).Perm (prodT ts i ++ (readT ts i ++ rest)) := by
      have h1 := filter_split (fun t => isO t.by_ i) (ts.filter (liveB (listed.setIfInBounds i true)))
      have e1 : (ts.filter (liveB (listed.setIfInBounds i true))).filter (fun t => isO t.by_ i) = prodT ts i := by
        rw [List.filter_filter]
        apply List.filter_congr
        intro t ht
        cases e : isO t.by_ i with
        | false => simp
        | true =>
          have hbi := isO_iff.1 e
          have hk := htok t ht
          unfold liveB
          rw [hbi]
          simp only [hset, if_true, Bool.true_and]
          split
          · rename_i c hc
            have hci : i ∈ ancOf ps c := (hk.use c hc).2 i hbi
            have hne : c ≠ i := fun e => hirr (e ▸ hci)
            have : listed.getD c false = false := by
              cases e : listed.getD c false with
              | false => rfl
              | true => exact absurd hci (hancn c e)
            simp [hne, this]
          · rfl
      have e2 : (ts.filter (liveB (listed.setIfInBounds i true))).filter (fun t => !(isO t.by_ i)) = Lv.filter (fun t => !(isO t.use i)) := by
        show _ = (ts.filter _).filter _
        rw [List.filter_filter, List.filter_filter]
        apply List.filter_congr
        intro t ht
        unfold liveB
        have hb1 : (!(isO t.by_ i) && (match t.by_ with | some p => (listed.setIfInBounds i true).getD p false | none => true)) = (match t.by_ with | some p => listed.getD p false | none => true) := by
          split
          · rename_i q hq
            rw [hq, hset]
            by_cases e : q = i
            · subst e
              have : listed.getD q false = false := getD_both hun
              simp [isO, this]
            · have : isO (some q) i = false := by
                cases h : isO (some q) i with
                | false => rfl
                | true => have := isO_iff.1 h; simp at this; exact absurd this e
              simp [e, this]
          · rename_i hq; rw [hq]; rfl
        have hu1 : (match t.use with | some c => !((listed.setIfInBounds i true).getD c false) | none => true) = (!(isO t.use i) && (match t.use with | some c => !(listed.getD c false) | none => true)) := by
          split
          · rename_i c hc
            rw [hc, hset]
            by_cases e : c = i
            · subst e; simp [isO]
            · have : isO (some c) i = false := by
                cases h : isO (some c) i with
                | false => rfl
                | true => have := isO_iff.1 h; simp at this; exact absurd this e
              simp [e, this]
          · rename_i hc; rw [hc]; rfl
        rw [hu1, ← hb1]
        simp only [Bool.and_assoc, Bool.and_left_comm]
      rw [e1, e2] at h1
      have h2 := filter_split (fun t => mem i t.rd) (Lv.filter (fun t => !(isO t.use i)))
      rw [hf2] at h2
      exact h1.trans (List.Perm.append_left _ h2)
    have hsame : ∀ v, ∀ t ∈ ts, liveB listed t = true → t.a (upd y i v) = t.a y := by
      intro v t ht hl
      refine hlocT t ht _ _ (fun q hq j hj => upd_ne ?_)
      have hqd : done listed q := by
        unfold liveB at hl
        rw [hq] at hl
        simp only [Bool.and_eq_true] at hl
        exact hl.1
      rcases hj with rfl | hj
      · exact hself _ hqd
      · exact hself _ (hinv.clA q hqd j hj)
    have hrestT : ∀ t ∈ rest, t ∈ ts ∧ liveB listed t = true := by
      intro t ht
      have h1 := (List.mem_filter.1 (List.mem_filter.1 (List.mem_filter.1 ht).1).1)
      exact h1
    have hstep := hobl i hlt o p ho hp y (atY rest y) (fun j hj => hinv.phi j (hanc j hj))
    have hinv1 : Inv C.w0 (atY (consT ts i) y ++ (atY (readT ts i) y ++ (atY rest y ++ A))) w := by
      refine hinv.inv.perm ?_
      have := (List.Perm.map (fun t : Tok => t.a y) hperm1).append_right A
      simpa [atY, List.append_assoc] using this
    have hK : ∀ v L' w', (Φ i (upd y i v) ∧ L'.Perm (atY (prodT ts i) (upd y i v) ++ (atY (readT ts i) y ++ (atY rest y ++ A)))) → Inv C.w0 L' w' → wpAny C.P .any l.toArray Q fuel (listed.setIfInBounds i true) (a.put o.dst v) w' := by
      rintro v L' w' ⟨h1, h2⟩ hi'
      refine ih _ _ _ (upd y i v) ⟨by simp [hinv.size], ?_, ?_, ?_, ?_, ?_, ?_, ?_⟩ hcnt
      · intro j hj q hq
        rcases (hdone' j).1 hj with rfl | hj
        · exact (hdone' q).2 (.inr (hanc q (by rw [← hpa]; exact hq)))
        · exact (hdone' q).2 (.inr (hinv.clA j hj q hq))
      · cases o.dst <;> exact hinv.defers
      · cases o.dst <;> simp [Act.put, hinv.asize]
      · intro j hj t ht
        rcases (hdone' j).1 hj with rfl | hj
        · rw [hdst] at ht
          rw [ht, upd_same]
          have := (ok.dst t ht).1
          simp [Act.put, hinv.asize, this]
        · rw [upd_ne (hself j hj)]
          have hv := hinv.vals j hj t ht
          cases hod : o.dst with
          | none => exact hv
          | some u =>
            have hne : u ≠ t := fun e => (ok.dst u hod).2 j (hself j hj) (e ▸ ht)
            simp only [Act.put]
            rw [Array.getElem?_setIfInBounds_ne hne]
            exact hv
      · intro s v' hs hne
        have hv := hinv.olds s v' hs (fun j hj => hne j ((hdone' j).2 (.inr hj)))
        cases hod : o.dst with
        | none => exact hv
        | some u =>
          have hne2 : u ≠ s := fun e => hne i ((hdone' i).2 (.inl rfl)) (by rw [hdst, hod, e])
          simp only [Act.put]
          rw [Array.getElem?_setIfInBounds_ne hne2]
          exact hv
      · intro j hj
        rcases (hdone' j).1 hj with rfl | hj
        · exact h1
        · refine hloc j y _ (fun q hq => (upd_ne ?_).symm) (hinv.phi j hj)
          rcases hq with rfl | hq
          · exact hself _ hj
          · exact hself _ (hinv.clA j hj q hq)
      · refine (hi'.perm h2).perm ?_
        have hp2 := (List.Perm.map (fun t : Tok => t.a (upd y i v)) hperm2).append_right A
        have er : (readT ts i).map (fun t : Tok => t.a (upd y i v)) = atY (readT ts i) y := List.map_congr_left (fun t ht => by
          have := List.mem_filter.1 ht
          exact hsame v t this.1 (hrl t this.1 this.2).1)
        have er2 : rest.map (fun t : Tok => t.a (upd y i v)) = atY rest y := List.map_congr_left (fun t ht => hsame v t (hrestT t ht).1 (hrestT t ht).2)
        simp only [List.map_append, er, er2] at hp2
        refine List.Perm.trans ?_ hp2.symm
        simp [atY, List.append_assoc]
    have h5 := hstep a w (wpAny C.P .any l.toArray Q fuel (listed.setIfInBounds i true)) ⟨Q, hX⟩ hagr hinv1 hK
    unfold wpOp
    have ho' : l.toArray[i]? = some o := by simpa using ho
    simp only [ho']
    by_cases hw : Region.wanted o (yielded l.toArray a.tmps) = true
    · rw [if_pos hw] at h5 ⊢; exact .inl h5
    · rw [if_neg hw] at h5 ⊢; exact h5
theorem w_net0 {Q : QT} {id : Nat} (ps : List Par) (ts : List Tok) (Φ : Nat → Yv → Prop) {L : List HProp}
    (hm : C.P.follows .mixedOrders = true) (hB : netB C l ps ts = true) (hlen : ps.length = l.length) (h0 : ∃ y0, L.Perm (atY (beginT ts) y0 ++ A))
    (hloc : ∀ i y y', (∀ j, j = i ∨ j ∈ ancOf ps i → y j = y' j) → Φ i y → Φ i y')
    (hlocT : ∀ t ∈ ts, ∀ y y' : Yv, (∀ p, t.by_ = some p → ∀ j, j = p ∨ j ∈ ancOf ps p → y j = y' j) → t.a y = t.a y')
    (hobl : ∀ i, i < l.length → OblN C l E0 ps ts A Φ i)
    (k : ∀ y, (∀ i, i < l.length → Φ i y) → Q .normal (finE l y l.length E0) (atY (endT ts) y ++ A)) (hX : ∀ ch E L, C.X ch L → Q (.panic ch) E L := by exact fun _ _ _ h => h) : Wp C (.region id l.toArray true) Q E0 L := by
  intro a w ha hi
  obtain ⟨y0, h0⟩ := h0
  unfold netB at hB
  simp only [Bool.and_eq_true] at hB
  have hok : ∀ i, i < l.length → ∃ o p, l[i]? = some o ∧ ps[i]? = some p ∧ ParOk C l ps [] i o p := fun i hi => parB_spec (List.all_eq_true.1 hB.1 i (List.mem_range.2 hi))
  have htok : ∀ t ∈ ts, TokOk ps l.length t := fun t ht => tokB_spec (List.all_eq_true.1 hB.2 t ht)
  refine wp_region_any hm ?_
  have hs : l.toArray.size = l.length := by simp
  rw [hs]
  refine wpAny_net (E0 := E0) (Φ := Φ) (A := A) hok htok hlen hobl hloc hlocT (fun ch E L a w h1 h2 h3 => ⟨E, L, h1, h2, hX ch E L h3⟩) ?_ l.length (Array.replicate l.length false) a _ y0 ?_ ?_
  · intro a w y p2 p3 p4 p5 p6 p7
    refine ⟨_, _, ⟨p3, p4, ?_⟩, p7, k y p2⟩
    have key : ∀ (n : Nat), n ≤ l.length → ∀ d v, (finE l y n E0).get d = some v → (∃ i, i < n ∧ dstIn l i = some d ∧ v = y i) ∨ (E0.get d = some v ∧ ∀ i, i < n → dstIn l i ≠ some d) := by
      intro n
      induction n with
      | zero => intro _ d v h; exact .inr ⟨h, fun i hi => absurd hi (by omega)⟩
      | succ n ih =>
        intro hn d v h
        simp only [finE] at h
        split at h
        · rename_i t ht
          rw [Env.get_cons] at h
          by_cases e : t = d
          · subst e; simp at h; exact .inl ⟨n, by omega, ht, h.symm⟩
          · simp only [e, if_false] at h
            rcases ih (by omega) d v h with ⟨i, hi, h1, h2⟩ | ⟨h1, h2⟩
            · exact .inl ⟨i, by omega, h1, h2⟩
            · refine .inr ⟨h1, fun i hi => ?_⟩
              by_cases e2 : i = n
              · subst e2; rw [ht]; intro e3; cases e3; exact e rfl
              · exact h2 i (by omega)
        · rename_i ht
          rcases ih (by omega) d v h with ⟨i, hi, h1, h2⟩ | ⟨h1, h2⟩
          · exact .inl ⟨i, by omega, h1, h2⟩
          · refine .inr ⟨h1, fun i hi => ?_⟩
            by_cases e2 : i = n
            · subst e2; rw [ht]; simp
            · exact h2 i (by omega)
    intro d v h
    rcases key l.length (Nat.le_refl _) d v h with ⟨i, hi, h1, rfl⟩ | ⟨h1, h2⟩
    · exact p5 i hi d h1
    · exact p6 d v h1 (fun j hj => h2 j (dstIn_lt hj) hj)
  · have hnone : ∀ j, ¬ done (Array.replicate l.length false) j := fun j h => by
      unfold done at h
      rw [getD_replicate_false'] at h
      cases h
    have hlive : ts.filter (liveB (Array.replicate l.length false)) = beginT ts := by
      unfold beginT
      apply List.filter_congr
      intro t ht
      unfold liveB
      cases h1 : t.by_ with
      | some q => simp only [getD_replicate_false', Bool.false_and]; rfl
      | none =>
        simp only [Bool.true_and]
        cases h2 : t.use with
        | some c => simp only [getD_replicate_false']; rfl
        | none => rfl
    exact ⟨by simp, fun i h => absurd h (hnone i), ha.defers, ha.size, fun i h => absurd h (hnone i), fun s v hs _ => ha.get s v hs, fun i h => absurd h (hnone i), by
      rw [hlive]
      exact hi.drew.perm h0⟩
  · exact Nat.le_trans (List.length_filter_le _ _) (by simp)
end
end Go.Sl
namespace Go.Sl
open Go.RowKit (Below)
structure AccN where
  V : List (Yv → Value)
  P : List (Yv → Prop)
def AccN.put (c : AccN) (f : Yv → Value) (q : Yv → Prop) : AccN := ⟨f :: c.V, q :: c.P⟩
def envN (l : List Oper) (E0 : Env) (p : Par) (i : Nat) (c : AccN) (y : Yv) : Env :=
  (p.deps.filterMap fun j => match dstIn l j with | some t => (match c.V[i - 1 - j]? with | some f => some (t, f y) | none => none) | none => none) ++ p.slots.filterMap fun s => match E0.get s with | some v => some (s, v) | none => none
def finN (l : List Oper) (n : Nat) (c : AccN) (y : Yv) : Nat → Env → Env
  | 0, E => E
  | i + 1, E => match dstIn l i with | some t => (match c.V[n - 1 - i]? with | some f => (t, f y) :: finN l n c y i E | none => finN l n c y i E) | none => finN l n c y i E
structure KnN (c : AccN) (i : Nat) (j : Nat) (y : Yv) : Prop where
  val : ∃ f q, c.V[i - 1 - j]? = some f ∧ c.P[i - 1 - j]? = some q ∧ y j = f y ∧ q y
section
variable {C : Ctx} {E0 : Env} {Q : QT} {L : List HProp}
def OwN (C : Ctx) (l : List Oper) (E0 : Env) (ts : List Tok) (A0 : List HProp) : Nat → AccN → List Oper → List Par → (AccN → Prop) → Prop
  | _, c, [], [], K => K c
  | i, c, o :: os, p :: ps, K => ∃ (f : Yv → Value) (q : Yv → Prop), Loc i p f ∧ Loc i p q ∧
      (∀ y M, (∀ j ∈ p.anc, KnN c i j y) → Step C l.toArray o (envN l E0 p i c y) (atY (consT ts i) y ++ (atY (readT ts i) y ++ (M ++ A0))) (fun v L' => f (upd y i v) = v ∧ q (upd y i v) ∧ L'.Perm (atY (prodT ts i) (upd y i v) ++ (atY (readT ts i) y ++ (M ++ A0))))) ∧ OwN C l E0 ts A0 (i + 1) (c.put f q) os ps K
  | _, _, _, _, _ => False
section
variable {l : List Oper} {ts : List Tok} {i : Nat} {c : AccN} {o : Oper} {os : List Oper} {ps : List Par} {f : Yv → Value} {K : AccN → Prop} {A0 : List HProp}
theorem net_nil (h : K c) : OwN C l E0 ts A0 i c [] [] K := h
theorem net_pure {p : Par} (E : Yv → Env) (hE : ∀ y, envN l E0 p i c y = E y) (hc : consT ts i = []) (hr : readT ts i = []) (hp : prodT ts i = []) (h : ∀ y, (∀ j ∈ p.anc, KnN c i j y) → ∀ L, Step C l.toArray o (E y) L (fun v' L' => v' = f y ∧ L' = L)) (hf : ∀ y v, f (upd y i v) = f y) (hloc : Loc i p f)
    (r : OwN C l E0 ts A0 (i + 1) (c.put f (fun _ => True)) os ps K) : OwN C l E0 ts A0 i c (o :: os) (p :: ps) K :=
  ⟨f, (fun _ => True), hloc, fun _ _ _ => rfl, fun y M h3 a w K' Q ha hi hK => by
    rw [hE] at ha
    simp only [hc, hr, hp, atY, List.map_nil, List.nil_append] at hi hK
    exact h y h3 _ a w K' Q ha hi (fun v' L' w' ⟨e1, e2⟩ hi' => hK v' L' w' ⟨by rw [hf, e1], trivial, by rw [e2]⟩ hi'), r⟩
theorem net_read {p : Par} (R : Yv → List HProp) (E : Yv → Env) (hE : ∀ y, envN l E0 p i c y = E y) (hc : consT ts i = []) (hr : ∀ y, atY (readT ts i) y = R y) (hp : prodT ts i = []) (h : ∀ y A, (∀ j ∈ p.anc, KnN c i j y) → Step C l.toArray o (E y) (R y ++ A) (fun v' L' => v' = f y ∧ L' = R y ++ A)) (hf : ∀ y v, f (upd y i v) = f y) (hloc : Loc i p f)
    (r : OwN C l E0 ts A0 (i + 1) (c.put f (fun _ => True)) os ps K) : OwN C l E0 ts A0 i c (o :: os) (p :: ps) K :=
  ⟨f, (fun _ => True), hloc, fun _ _ _ => rfl, fun y M h3 a w K' Q ha hi hK => by
    rw [hE] at ha
    rw [hc, hr] at hi
    rw [hp, hr] at hK
    exact h y (M ++ A0) h3 a w K' Q ha hi (fun v' L' w' ⟨e1, e2⟩ hi' => hK v' L' w' ⟨by rw [hf, e1], trivial, by rw [e2]; exact .refl _⟩ hi'), r⟩
theorem net_eff {p : Par} (T R M : Yv → List HProp) (E : Yv → Env) (hE : ∀ y, envN l E0 p i c y = E y) (hc : ∀ y, atY (consT ts i) y = T y) (hr : ∀ y, atY (readT ts i) y = R y) (hp : ∀ y, atY (prodT ts i) y = M y)
    (h : ∀ y A, (∀ j ∈ p.anc, KnN c i j y) → Step C l.toArray o (E y) (T y ++ (R y ++ A)) (fun v' L' => v' = f y ∧ L'.Perm (M y ++ (R y ++ A)))) (hf : ∀ y v, f (upd y i v) = f y) (hM : ∀ y v, M (upd y i v) = M y) (hloc : Loc i p f)
    (r : OwN C l E0 ts A0 (i + 1) (c.put f (fun _ => True)) os ps K) : OwN C l E0 ts A0 i c (o :: os) (p :: ps) K :=
  ⟨f, (fun _ => True), hloc, fun _ _ _ => rfl, fun y M h3 a w K' Q ha hi hK => by
    rw [hE] at ha
    rw [hc, hr] at hi
    exact h y (M ++ A0) h3 a w K' Q ha hi (fun v' L' w' ⟨e1, e2⟩ hi' => hK v' L' w' ⟨by rw [hf, e1], trivial, by rw [hp, hM, hr]; exact e2⟩ hi'), r⟩
theorem net_new {p : Par} (g : Yv → Value → Value) (Pv : Yv → Value → Prop) (T R : Yv → List HProp) (M : Yv → Value → List HProp) (E : Yv → Env) (hE : ∀ y, envN l E0 p i c y = E y) (hc : ∀ y, atY (consT ts i) y = T y) (hr : ∀ y, atY (readT ts i) y = R y) (hp : ∀ y, atY (prodT ts i) y = M y (y i))
    (h : ∀ y A, (∀ j ∈ p.anc, KnN c i j y) → Step C l.toArray o (E y) (T y ++ (R y ++ A)) (fun v' L' => v' = g y v' ∧ Pv y v' ∧ L'.Perm (M y v' ++ (R y ++ A)))) (hg : ∀ y v u, g (upd y i v) u = g y u) (hP : ∀ y v u, Pv (upd y i v) u = Pv y u) (hM : ∀ y v u, M (upd y i v) u = M y u) (hloc : Loc i p (fun y => g y (y i))) (hlocP : Loc i p (fun y => Pv y (y i)))
    (r : OwN C l E0 ts A0 (i + 1) (c.put (fun y => g y (y i)) (fun y => Pv y (y i))) os ps K) : OwN C l E0 ts A0 i c (o :: os) (p :: ps) K :=
  ⟨(fun y => g y (y i)), (fun y => Pv y (y i)), hloc, hlocP, fun y M h3 a w K' Q ha hi hK => by
    rw [hE] at ha
    rw [hc, hr] at hi
    exact h y (M ++ A0) h3 a w K' Q ha hi (fun v' L' w' ⟨e1, e2, e3⟩ hi' => hK v' L' w' ⟨by show g (upd y i v') (upd y i v' i) = v'; rw [hg, upd_same]; exact e1.symm, by show Pv (upd y i v') (upd y i v' i); rw [hP, upd_same]; exact e2, by rw [hp, hM, upd_same, hr]; exact e3⟩ hi'), r⟩
end
theorem OwN.get {l : List Oper} {ts : List Tok} {A0 : List HProp} {K : AccN → Prop} : ∀ {i : Nat} {c : AccN} {os : List Oper} {ps : List Par}, OwN C l E0 ts A0 i c os ps K → c.V.length = i → c.P.length = i → (∀ (j : Nat) (p : Par), ps[j]? = some p → ∀ d, d ∈ p.deps ∨ d ∈ p.anc → d < i + j) →
    ∃ (fs : List (Yv → Value)) (qs : List (Yv → Prop)), fs.length = os.length ∧ qs.length = os.length ∧ K ⟨fs.reverse ++ c.V, qs.reverse ++ c.P⟩ ∧
      ∀ j o p f q, os[j]? = some o → ps[j]? = some p → fs[j]? = some f → qs[j]? = some q → Loc (i + j) p f ∧ Loc (i + j) p q ∧
        (∀ y M, (∀ d ∈ p.anc, ∃ f' q', (c.V.reverse ++ fs)[d]? = some f' ∧ (c.P.reverse ++ qs)[d]? = some q' ∧ y d = f' y ∧ q' y) → Step C l.toArray o (envY l E0 p (c.V.reverse ++ fs) y) (atY (consT ts (i + j)) y ++ (atY (readT ts (i + j)) y ++ (M ++ A0))) (fun v L' => f (upd y (i + j) v) = v ∧ q (upd y (i + j) v) ∧ L'.Perm (atY (prodT ts (i + j)) (upd y (i + j) v) ++ (atY (readT ts (i + j)) y ++ (M ++ A0)))))
  | i, c, [], [], h, _, _, _ => ⟨[], [], rfl, rfl, h, fun j o p f q h => by simp at h⟩
  | i, c, o :: os, p :: ps, ⟨f, q, h1, h2, h4, h5⟩, hV, hP, hd => by
    obtain ⟨fs, qs, l1, l2, hK, hrest⟩ := OwN.get h5 (by simp [AccN.put, hV]) (by simp [AccN.put, hP]) (fun j p hp d hdd => by have := hd (j + 1) p (by simpa using hp) d hdd; omega)
    have e1 : (c.put f q).V.reverse ++ fs = c.V.reverse ++ f :: fs := by simp [AccN.put]
    have e2 : (c.put f q).P.reverse ++ qs = c.P.reverse ++ q :: qs := by simp [AccN.put]
    rw [e1, e2] at hrest
    refine ⟨f :: fs, q :: qs, by simp [l1], by simp [l2], by simpa [AccN.put] using hK, fun j o' p' f' q' ho hp hf hq => ?_⟩
    cases j with
    | succ j =>
      rw [show i + (j + 1) = i + 1 + j by omega]
      exact hrest j o' p' f' q' (by simpa using ho) (by simpa using hp) (by simpa using hf) (by simpa using hq)
    | zero =>
      simp at ho hp hf hq
      subst ho; subst hp; subst hf; subst hq
      refine ⟨h1, h2, fun y A hkn => ?_⟩
      have hd0 := hd 0 p (by simp)
      have get0 : ∀ {β : Type} (xs ys : List β) (x : β) (d : Nat), xs.length = i → d < i → (xs.reverse ++ x :: ys)[d]? = xs[i - 1 - d]? := by
        intro β xs ys x d hx hlt
        rw [List.getElem?_append_left (by simp; omega), List.getElem?_reverse (by omega), hx]
      have henv : envY l E0 p (c.V.reverse ++ f :: fs) y = envN l E0 p i c y := by
        unfold envY envN
        congr 1
        have hdd : ∀ d ∈ p.deps, d < i := fun d hd => by have := hd0 d (.inl hd); omega
        revert hdd
        generalize p.deps = ds
        intro hdd
        induction ds with
        | nil => rfl
        | cons d ds ih =>
          simp only [List.filterMap_cons, get0 c.V fs f d hV (hdd d (by simp))]
          rw [ih (fun d hd => hdd d (by simp [hd]))] <;> (cases dstIn l d with | none => rfl | some t => cases c.V[i - 1 - d]? <;> rfl)
      rw [henv]
      refine h4 y A (fun j hj => ⟨?_⟩)
      obtain ⟨f', q', e1, e2, e3, e4⟩ := hkn j hj
      have hlt := hd0 j (.inr hj)
      rw [get0 c.V fs f j hV (by omega)] at e1
      rw [get0 c.P qs q j hP (by omega)] at e2
      exact ⟨f', q', e1, e2, e3, e4⟩
  | i, c, [], p :: ps, h, _, _, _ => h.elim
  | i, c, o :: os, [], h, _, _, _ => h.elim
def LocT (ps : List Par) (ts : List Tok) : Prop := ∀ t ∈ ts, ∀ y y' : Yv, (∀ p, t.by_ = some p → ∀ j, j = p ∨ j ∈ ancOf ps p → y j = y' j) → t.a y = t.a y'
theorem locT_nil {ps : List Par} : LocT ps [] := fun t h => by cases h
theorem locT_0 {ps : List Par} {ts : List Tok} {u : Option Nat} {r : List Nat} (a : HProp) (h : LocT ps ts) : LocT ps (⟨fun _ => a, none, u, r⟩ :: ts) := fun t ht y y' hy => by
  rcases List.mem_cons.1 ht with rfl | ht
  · rfl
  · exact h t ht y y' hy
theorem locT_1 {ps : List Par} {ts : List Tok} {u : Option Nat} {r : List Nat} {p : Nat} {a : Yv → HProp} (anc : List Nat) (ha : ancOf ps p = anc) (h1 : ∀ y y' : Yv, (∀ j, j = p ∨ j ∈ anc → y j = y' j) → a y = a y') (h : LocT ps ts) : LocT ps (⟨a, some p, u, r⟩ :: ts) := fun t ht y y' hy => by
  rcases List.mem_cons.1 ht with rfl | ht
  · exact h1 y y' (fun j hj => hy p rfl j (by rw [ha]; exact hj))
  · exact h t ht y y' hy
theorem w_net {l : List Oper} {id : Nat} (ps : List Par) (ts : List Tok) (A : List HProp) (hm : C.P.follows .mixedOrders = true) (hB : netB C l ps ts = true) (hps : ps.length = l.length)
    (h0 : ∀ y, L.Perm (atY (beginT ts) y ++ A)) (hlocT : LocT ps ts)
    (how : OwN C l E0 ts A 0 ⟨[], []⟩ l ps (fun c => ∀ y, (∀ j, j < l.length → KnN c l.length j y) → Q .normal (finN l l.length c y l.length E0) (atY (endT ts) y ++ A))) (hX : ∀ ch E L, C.X ch L → Q (.panic ch) E L := by exact fun _ _ _ h => h) : Wp C (.region id l.toArray true) Q E0 L := by
  have hpar : ∀ (j : Nat), j < l.length → ∃ o p, l[j]? = some o ∧ ps[j]? = some p ∧ ParOk C l ps [] j o p := fun j hj => by
    unfold netB at hB
    simp only [Bool.and_eq_true] at hB
    exact parB_spec (List.all_eq_true.1 hB.1 j (List.mem_range.2 hj))
  have hdeps : ∀ (j : Nat) (p : Par), ps[j]? = some p → ∀ d, d ∈ p.deps ∨ d ∈ p.anc → d < 0 + j := by
    intro j p hp d hd
    have hj : j < l.length := by rw [← hps]; exact (List.getElem?_eq_some_iff.1 hp).1
    obtain ⟨o', p', ho', hp', ok⟩ := hpar j hj
    rw [hp] at hp'
    cases hp'
    have := (ok.anc d (hd.elim (ok.deps d) (fun h => h))).1
    omega
  obtain ⟨V, P, lV, lP, hk, hget⟩ := how.get rfl rfl hdeps
  simp only [List.reverse_nil, List.nil_append, List.append_nil] at hk hget
  have hVP : ∀ i, i < l.length → ∃ p f q, ps[i]? = some p ∧ V[i]? = some f ∧ P[i]? = some q := fun i hi => ⟨ps[i], V[i], P[i], List.getElem?_eq_getElem (by omega), List.getElem?_eq_getElem (by omega), List.getElem?_eq_getElem (by omega)⟩
  refine w_net0 (A := A) (hX := hX) ps ts (fun i y => ∃ f q, V[i]? = some f ∧ P[i]? = some q ∧ y i = f y ∧ q y) hm hB hps ⟨fun _ => undef, h0 _⟩ ?_ hlocT ?_ ?_
  · rintro i y y' h ⟨f, q, e1, e2, e3, e4⟩
    have hi : i < l.length := by rw [← lV]; exact (List.getElem?_eq_some_iff.1 e1).1
    obtain ⟨p, f', q', hp, hf, hq⟩ := hVP i hi
    obtain ⟨h1, h2, _⟩ := hget i _ p f q (List.getElem?_eq_getElem hi) hp e1 e2
    rw [Nat.zero_add] at h1 h2
    have hanc : ∀ j, j = i ∨ j ∈ p.anc → y j = y' j := fun j hj => h j (hj.imp (fun h => h) (fun h => by simp [ancOf, hp, h]))
    exact ⟨f, q, e1, e2, by rw [← hanc i (.inl rfl), e3]; exact h1 y y' hanc, by rw [← h2 y y' hanc]; exact e4⟩
  · intro i hi o p ho hp y A' h3
    obtain ⟨p', f, q, hp', hf, hq⟩ := hVP i hi
    rw [hp] at hp'
    cases hp'
    have hdep : ∀ j ∈ p.deps, j ∈ p.anc := by
      obtain ⟨o', p', ho', hp', ok⟩ := hpar i hi
      rw [hp] at hp'
      cases hp'
      exact ok.deps
    have henv : envOf l E0 p y = envY l E0 p V y := by
      unfold envOf envY
      congr 1
      revert hdep
      generalize p.deps = ds
      intro hdep
      induction ds with
      | nil => rfl
      | cons j ds ih =>
        obtain ⟨fj, qj, e1, e2, e3, e4⟩ := h3 j (hdep j (by simp))
        simp only [List.filterMap_cons]
        cases hd : dstIn l j with
        | none => simpa using ih (fun j hj => hdep j (by simp [hj]))
        | some t =>
          simp only [e1, e3]
          rw [ih (fun j hj => hdep j (by simp [hj]))]
    rw [henv]
    obtain ⟨_, _, hst⟩ := hget i o p f q ho hp hf hq
    rw [Nat.zero_add] at hst
    intro a w K Qx ha hinv hK
    refine hst y A' h3 a w K Qx ha hinv ?_
    rintro v' M w' ⟨e1, e2, hM⟩ hi'
    exact hK v' M w' ⟨⟨f, q, hf, hq, by rw [upd_same, e1], e2⟩, hM⟩ hi'
  · intro y hy
    have rev : ∀ {β : Type} (xs : List β) (j : Nat), xs.length = l.length → j < l.length → xs.reverse[l.length - 1 - j]? = xs[j]? := by
      intro β xs j hx hj
      rw [List.getElem?_reverse (by omega)]
      congr 1
      omega
    have h := hk y (fun j hj => by
      obtain ⟨f, q, e1, e2, e3, e4⟩ := hy j hj
      exact ⟨f, q, by rw [rev V j lV hj]; exact e1, by rw [rev P j lP hj]; exact e2, e3, e4⟩)
    have hfin : ∀ n, n ≤ l.length → finN l l.length ⟨V.reverse, P.reverse⟩ y n E0 = finE l y n E0 := by
      intro n
      induction n with
      | zero => intro _; rfl
      | succ n ih =>
        intro hn
        obtain ⟨f, q, e1, e2, e3, e4⟩ := hy n (by omega)
        simp only [finN, finE]
        rw [ih (by omega), rev V n lV (by omega), e1, e3] <;> (cases dstIn l n <;> rfl)
    rw [hfin _ (Nat.le_refl _)] at h
    exact h
end
end Go.Sl
namespace Go.Sl
theorem mm8 {A B0 B1 B2 B3 B4 B5 B6 B7 : HProp} {L : List HProp} : A ∈ B0 :: B1 :: B2 :: B3 :: B4 :: B5 :: B6 :: B7 :: A :: L := .tail _ mm7
theorem rr8 {A B0 B1 B2 B3 B4 B5 B6 B7 : HProp} {L : List HProp} : Rem (B0 :: B1 :: B2 :: B3 :: B4 :: B5 :: B6 :: B7 :: A :: L) A (B0 :: B1 :: B2 :: B3 :: B4 :: B5 :: B6 :: B7 :: L) := .tail rr7
theorem pp8 {A A' B0 B1 B2 B3 B4 B5 B6 B7 : HProp} {L : List HProp} : Rep (B0 :: B1 :: B2 :: B3 :: B4 :: B5 :: B6 :: B7 :: A :: L) A A' (B0 :: B1 :: B2 :: B3 :: B4 :: B5 :: B6 :: B7 :: A' :: L) := .tail pp7
theorem mm9 {A B0 B1 B2 B3 B4 B5 B6 B7 B8 : HProp} {L : List HProp} : A ∈ B0 :: B1 :: B2 :: B3 :: B4 :: B5 :: B6 :: B7 :: B8 :: A :: L := .tail _ mm8
theorem rr9 {A B0 B1 B2 B3 B4 B5 B6 B7 B8 : HProp} {L : List HProp} : Rem (B0 :: B1 :: B2 :: B3 :: B4 :: B5 :: B6 :: B7 :: B8 :: A :: L) A (B0 :: B1 :: B2 :: B3 :: B4 :: B5 :: B6 :: B7 :: B8 :: L) := .tail rr8
theorem pp9 {A A' B0 B1 B2 B3 B4 B5 B6 B7 B8 : HProp} {L : List HProp} : Rep (B0 :: B1 :: B2 :: B3 :: B4 :: B5 :: B6 :: B7 :: B8 :: A :: L) A A' (B0 :: B1 :: B2 :: B3 :: B4 :: B5 :: B6 :: B7 :: B8 :: A' :: L) := .tail pp8
theorem mm10 {A B0 B1 B2 B3 B4 B5 B6 B7 B8 B9 : HProp} {L : List HProp} : A ∈ B0 :: B1 :: B2 :: B3 :: B4 :: B5 :: B6 :: B7 :: B8 :: B9 :: A :: L := .tail _ mm9
theorem rr10 {A B0 B1 B2 B3 B4 B5 B6 B7 B8 B9 : HProp} {L : List HProp} : Rem (B0 :: B1 :: B2 :: B3 :: B4 :: B5 :: B6 :: B7 :: B8 :: B9 :: A :: L) A (B0 :: B1 :: B2 :: B3 :: B4 :: B5 :: B6 :: B7 :: B8 :: B9 :: L) := .tail rr9
theorem pp10 {A A' B0 B1 B2 B3 B4 B5 B6 B7 B8 B9 : HProp} {L : List HProp} : Rep (B0 :: B1 :: B2 :: B3 :: B4 :: B5 :: B6 :: B7 :: B8 :: B9 :: A :: L) A A' (B0 :: B1 :: B2 :: B3 :: B4 :: B5 :: B6 :: B7 :: B8 :: B9 :: A' :: L) := .tail pp9
theorem mm11 {A B0 B1 B2 B3 B4 B5 B6 B7 B8 B9 B10 : HProp} {L : List HProp} : A ∈ B0 :: B1 :: B2 :: B3 :: B4 :: B5 :: B6 :: B7 :: B8 :: B9 :: B10 :: A :: L := .tail _ mm10
theorem rr11 {A B0 B1 B2 B3 B4 B5 B6 B7 B8 B9 B10 : HProp} {L : List HProp} : Rem (B0 :: B1 :: B2 :: B3 :: B4 :: B5 :: B6 :: B7 :: B8 :: B9 :: B10 :: A :: L) A (B0 :: B1 :: B2 :: B3 :: B4 :: B5 :: B6 :: B7 :: B8 :: B9 :: B10 :: L) := .tail rr10
theorem pp11 {A A' B0 B1 B2 B3 B4 B5 B6 B7 B8 B9 B10 : HProp} {L : List HProp} : Rep (B0 :: B1 :: B2 :: B3 :: B4 :: B5 :: B6 :: B7 :: B8 :: B9 :: B10 :: A :: L) A A' (B0 :: B1 :: B2 :: B3 :: B4 :: B5 :: B6 :: B7 :: B8 :: B9 :: B10 :: A' :: L) := .tail pp10
theorem mm12 {A B0 B1 B2 B3 B4 B5 B6 B7 B8 B9 B10 B11 : HProp} {L : List HProp} : A ∈ B0 :: B1 :: B2 :: B3 :: B4 :: B5 :: B6 :: B7 :: B8 :: B9 :: B10 :: B11 :: A :: L := .tail _ mm11
theorem rr12 {A B0 B1 B2 B3 B4 B5 B6 B7 B8 B9 B10 B11 : HProp} {L : List HProp} : Rem (B0 :: B1 :: B2 :: B3 :: B4 :: B5 :: B6 :: B7 :: B8 :: B9 :: B10 :: B11 :: A :: L) A (B0 :: B1 :: B2 :: B3 :: B4 :: B5 :: B6 :: B7 :: B8 :: B9 :: B10 :: B11 :: L) := .tail rr11
theorem pp12 {A A' B0 B1 B2 B3 B4 B5 B6 B7 B8 B9 B10 B11 : HProp} {L : List HProp} : Rep (B0 :: B1 :: B2 :: B3 :: B4 :: B5 :: B6 :: B7 :: B8 :: B9 :: B10 :: B11 :: A :: L) A A' (B0 :: B1 :: B2 :: B3 :: B4 :: B5 :: B6 :: B7 :: B8 :: B9 :: B10 :: B11 :: A' :: L) := .tail pp11
theorem mm13 {A B0 B1 B2 B3 B4 B5 B6 B7 B8 B9 B10 B11 B12 : HProp} {L : List HProp} : A ∈ B0 :: B1 :: B2 :: B3 :: B4 :: B5 :: B6 :: B7 :: B8 :: B9 :: B10 :: B11 :: B12 :: A :: L := .tail _ mm12
theorem rr13 {A B0 B1 B2 B3 B4 B5 B6 B7 B8 B9 B10 B11 B12 : HProp} {L : List HProp} : Rem (B0 :: B1 :: B2 :: B3 :: B4 :: B5 :: B6 :: B7 :: B8 :: B9 :: B10 :: B11 :: B12 :: A :: L) A (B0 :: B1 :: B2 :: B3 :: B4 :: B5 :: B6 :: B7 :: B8 :: B9 :: B10 :: B11 :: B12 :: L) := .tail rr12
theorem pp13 {A A' B0 B1 B2 B3 B4 B5 B6 B7 B8 B9 B10 B11 B12 : HProp} {L : List HProp} : Rep (B0 :: B1 :: B2 :: B3 :: B4 :: B5 :: B6 :: B7 :: B8 :: B9 :: B10 :: B11 :: B12 :: A :: L) A A' (B0 :: B1 :: B2 :: B3 :: B4 :: B5 :: B6 :: B7 :: B8 :: B9 :: B10 :: B11 :: B12 :: A' :: L) := .tail pp12
theorem mm14 {A B0 B1 B2 B3 B4 B5 B6 B7 B8 B9 B10 B11 B12 B13 : HProp} {L : List HProp} : A ∈ B0 :: B1 :: B2 :: B3 :: B4 :: B5 :: B6 :: B7 :: B8 :: B9 :: B10 :: B11 :: B12 :: B13 :: A :: L := .tail _ mm13
theorem rr14 {A B0 B1 B2 B3 B4 B5 B6 B7 B8 B9 B10 B11 B12 B13 : HProp} {L : List HProp} : Rem (B0 :: B1 :: B2 :: B3 :: B4 :: B5 :: B6 :: B7 :: B8 :: B9 :: B10 :: B11 :: B12 :: B13 :: A :: L) A (B0 :: B1 :: B2 :: B3 :: B4 :: B5 :: B6 :: B7 :: B8 :: B9 :: B10 :: B11 :: B12 :: B13 :: L) := .tail rr13
theorem pp14 {A A' B0 B1 B2 B3 B4 B5 B6 B7 B8 B9 B10 B11 B12 B13 : HProp} {L : List HProp} : Rep (B0 :: B1 :: B2 :: B3 :: B4 :: B5 :: B6 :: B7 :: B8 :: B9 :: B10 :: B11 :: B12 :: B13 :: A :: L) A A' (B0 :: B1 :: B2 :: B3 :: B4 :: B5 :: B6 :: B7 :: B8 :: B9 :: B10 :: B11 :: B12 :: B13 :: A' :: L) := .tail pp13
theorem dd9 {B0 B1 B2 B3 B4 B5 B6 B7 B8 : HProp} {L : List HProp} : Drop (B0 :: B1 :: B2 :: B3 :: B4 :: B5 :: B6 :: B7 :: B8 :: L) L := .skip dd8
theorem dd10 {B0 B1 B2 B3 B4 B5 B6 B7 B8 B9 : HProp} {L : List HProp} : Drop (B0 :: B1 :: B2 :: B3 :: B4 :: B5 :: B6 :: B7 :: B8 :: B9 :: L) L := .skip dd9
theorem dd11 {B0 B1 B2 B3 B4 B5 B6 B7 B8 B9 B10 : HProp} {L : List HProp} : Drop (B0 :: B1 :: B2 :: B3 :: B4 :: B5 :: B6 :: B7 :: B8 :: B9 :: B10 :: L) L := .skip dd10
theorem dd12 {B0 B1 B2 B3 B4 B5 B6 B7 B8 B9 B10 B11 : HProp} {L : List HProp} : Drop (B0 :: B1 :: B2 :: B3 :: B4 :: B5 :: B6 :: B7 :: B8 :: B9 :: B10 :: B11 :: L) L := .skip dd11
theorem dd13 {B0 B1 B2 B3 B4 B5 B6 B7 B8 B9 B10 B11 B12 : HProp} {L : List HProp} : Drop (B0 :: B1 :: B2 :: B3 :: B4 :: B5 :: B6 :: B7 :: B8 :: B9 :: B10 :: B11 :: B12 :: L) L := .skip dd12
theorem dd14 {B0 B1 B2 B3 B4 B5 B6 B7 B8 B9 B10 B11 B12 B13 : HProp} {L : List HProp} : Drop (B0 :: B1 :: B2 :: B3 :: B4 :: B5 :: B6 :: B7 :: B8 :: B9 :: B10 :: B11 :: B12 :: B13 :: L) L := .skip dd13
section
variable {C : Ctx} {E : Env} {L F G : List HProp} {ops : Array Oper} {d : Option Nat} {ty : TypeId} {pos : String} {aft : Array Edge} {op : Op} {o : Oper} {α : Type} {c : Ec α}
theorem st_appN {n : Nat} {l : List α} (h : OpX C op ty E L (fun v L' => ∃ p' c', v = .slice p' n c' ∧ L' = Row c p' n c' l :: F)) (hF : F.Perm G) :
    Step C ops ⟨d, op, ty, pos, aft, none⟩ E L (fun v L' => v = .slice (slP v) n (slC v) ∧ True ∧ L'.Perm ([Row c (slP v) n (slC v) l] ++ G)) :=
  st_x fun d pos aft g a w K Q ha hi hK => h d pos aft g a w K Q ha hi fun v L' w' ⟨p, c', e1, e2⟩ hi' => hK v L' w' (by subst e1; subst e2; exact ⟨rfl, trivial, List.Perm.cons _ hF⟩) hi'
def ptB : Value → Nat | .pointer (some a) => a.block | _ => 0
theorem st_newN {n m : Nat} {l : List α} (h : OpX C op ty E L (fun v L' => ∃ b, v = .slice (some ⟨b, 0, none⟩) n m ∧ L' = Row c (some ⟨b, 0, none⟩) n m l :: L)) :
    Step C ops ⟨d, op, ty, pos, aft, none⟩ E L (fun v L' => v = .slice (some ⟨blk' (slP v), 0, none⟩) n m ∧ True ∧ L'.Perm ([Row c (some ⟨blk' (slP v), 0, none⟩) n m l] ++ L)) :=
  st_x fun d pos aft g a w K Q ha hi hK => h d pos aft g a w K Q ha hi fun v L' w' ⟨b, e1, e2⟩ hi' => hK v L' w' (by subst e1; subst e2; exact ⟨rfl, trivial, List.Perm.refl _⟩) hi'
theorem st_allocN {t : TypeId} {cs : List Value} (h : OpX C op ty E L (fun v L' => ∃ b, v = .pointer (some ⟨b, 0, none⟩) ∧ L' = Cel b t cs :: L)) :
    Step C ops ⟨d, op, ty, pos, aft, none⟩ E L (fun v L' => v = .pointer (some ⟨ptB v, 0, none⟩) ∧ True ∧ L'.Perm ([Cel (ptB v) t cs] ++ L)) :=
  st_x fun d pos aft g a w K Q ha hi hK => h d pos aft g a w K Q ha hi fun v L' w' ⟨b, e1, e2⟩ hi' => hK v L' w' (by subst e1; subst e2; exact ⟨rfl, trivial, List.Perm.refl _⟩) hi'
theorem x_boxN {t : TypeId} {x : Operand} {u : Value} {cs : List Value} (hx : evalE E x = some u) (hc : u.cells.toList = cs) : OpX C (.box t x) ty E L (fun v L' => ∃ b, v = .pointer (some ⟨b, 0, none⟩) ∧ L' = Cel b t cs :: L) := by
  subst hc; exact x_box hx
theorem st_callN {f : FuncId} {args : List Operand} {tys : Array TypeId} {vs : List Value} {Pre Post : List HProp} {R : Value → List HProp → Prop} {v0 : Value} (hS : Ctr C.P f vs Pre (Ret R)) (hb : bodyB C.P f = true) (hE : evs E args = some vs) (hL : Rems L Pre F) (hR : ∀ v G, R v G → v = v0 ∧ G.Perm Post) :
    Step C ops ⟨d, .call ⟨.value (.func f), args.toArray, tys⟩, ty, pos, aft, none⟩ E L (fun v L' => v = v0 ∧ L'.Perm (Post ++ F)) :=
  st_call hS hb hE hL fun v G hr => ⟨(hR v G hr).1, (hR v G hr).2.append_right F⟩
theorem r_makeNX {x y : Operand} {t by_ : Nat} {k1 k2 : IntKind} {i1 i2 : Int} {zs : List Value} (n m : Nat) (c : Ec α) (e1 : i1 = (n : Int)) (e2 : i2 = (m : Int)) (ht : sliceB C.P t = some (c.T, c.sz, by_)) (hz : zeroB C.P c.T = some zs) (hze : zs = c.e c.d) (hsz : Nat.ble 1 c.sz = true)
    (hx : evalE E x = some (.int k1 i1)) (hy : evalE E y = some (.int k2 i2)) (hnc : n ≤ m) (hb : m * by_ ≤ 281474976710656) (hby : Nat.ble 1 by_ = true) :
    OpX C (.makeSlice t x y) ty E L (fun v L' => ∃ b, v = .slice (some ⟨b, 0, none⟩) n m ∧ L' = Row c (some ⟨b, 0, none⟩) n m (List.replicate n c.d) :: L) := by
  subst e1
  subst e2
  refine r_makeX ht hz hze hsz hx hy (by omega) (by omega) ?_ hby
  have : ((m * by_ : Nat) : Int) = (m : Int) * by_ := Int.natCast_mul _ _
  omega
end
end Go.Sl
namespace Go.Sl
def ExtB (P : Program) (f : FuncId) (e : Array Value → Sem Value) : Prop := ∃ fn, P.funcs[f]? = some fn ∧ (fn.name == "runtime.NumGoroutine") = false ∧ fn.body.isNone = true ∧ Extern.findNext fn = none ∧ Extern.find fn = some e
end Go.Sl
namespace Go.Sl
section
variable {C : Ctx} {Q : QT} {E : Env} {L : List HProp} {ops : Array Oper} {rest : List Oper} {d : Nat} {ty : TypeId} {pos : String} {aft : Array Edge} {op : Op}
end
end Go.Sl
namespace Go.Sl
section
variable {C : Ctx} {Q : QT} {E : Env} {L F : List HProp} {ops : Array Oper} {rest : List Oper} {d : Option Nat} {ty : TypeId} {pos : String} {aft : Array Edge}
end
end Go.Sl
namespace Go.Sl
section
variable {C : Ctx} {E : Env} {L F : List HProp} {ops : Array Oper} {d : Option Nat} {ty : TypeId} {pos : String} {aft : Array Edge}
end
def cmpI (a b : Int) : Int := if a < b then -1 else if b < a then 1 else 0
end Go.Sl
namespace Go.Sl
theorem gE {α : Type} {c : Ec α} {l : List α} {e : Int} (k : Nat) (h : e.toNat = k) : c.g l e = l.getD k c.d := by subst h; rfl
end Go.Sl
namespace Go.Sl
def CA (pre : List Value) (k : IntKind) (xs : List Int) (post : List Value) : List Value := pre ++ (ints k xs ++ post)
section
variable {C : Ctx} {E : Env} {L L' : List HProp} {ty : TypeId} {v : Value} {pre post post' : List Value} {k : IntKind} {xs : List Int}
end
end Go.Sl
namespace Go.Sl
section
variable {C : Ctx} {Q : QT} {E : Env} {L M F : List HProp} {ops : Array Oper} {rest : List Oper}
end
end Go.Sl
namespace Go.Sl
open Go.RowKit (Below)
theorem start1 {w : World} {A : HProp} (h : A w (fun _ => none)) : Inv w [A] w := (Inv.start w).add0 h
theorem start2 {w : World} {A B : HProp} (h : A w (fun _ => none)) (h2 : B w (fun _ => none)) : Inv w [A, B] w := (start1 h2).add0 h
theorem Ctr.law {P : Program} {f : FuncId} {args : List Value} {Pre : List HProp} {R : Value → List HProp → Prop} {w : World} {v : Value} (h : Ctr P f args Pre (Ret R)) (hi : Inv w Pre w) (hv : ∀ v' G, R v' G → v' = v) :
    Calls P f args.toArray w fun e w' => e = .returned v ∧ Below w.heap.size w w' :=
  (h w [] w (by rw [List.append_nil]; exact hi)).mono fun e w' ⟨G, h1, v', h2, h3⟩ => ⟨by rw [h2, hv v' G h3], h1.below⟩
end Go.Sl

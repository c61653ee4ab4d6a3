/- Walks of functions that the law reaches, and what they lean on; no conditions. -/
import Derived.Test.YtmaiakpjgomnpaaGreatM0
import Derived.OpenShut
import Derived.ChangeArms
import Derived.Recover
import Derived.Laws.BytesArg
import Derived.Still
set_option linter.unusedVariables false
set_option linter.unusedSimpArgs false
set_option maxRecDepth 100000
namespace Go.Sl
open Go.RowKit (Below)
structure ef where
  a : Yv → ad
  cJ : Option Nat
  use : Option Nat
  rd : List Nat
def jq (o : Option Nat) (i : Nat) : Bool := match o with | some j => Nat.beq j i | none => false
theorem oB {o : Option Nat} {i : Nat} : jq o i = true ↔ o = some i := by
  unfold jq
  cases o with
  | none => simp
  | some j =>
    constructor
    · intro h; rw [Nat.eq_of_beq_eq_true h]
    · intro h; cases h; exact Nat.beq_refl _
def iH (ts : List ef) (i : Nat) : List ef := ts.filter fun t => jq t.use i
def fu (ts : List ef) (i : Nat) : List ef := ts.filter fun t => mem i t.rd
def hG (ts : List ef) (i : Nat) : List ef := ts.filter fun t => jq t.cJ i
def uB (ts : List ef) : List ef := ts.filter fun t => t.use.isNone
def pU (ts : List ef) : List ef := ts.filter fun t => t.cJ.isNone
def fb (ts : List ef) (y : Yv) : List ad := ts.map fun t => t.a y
def hJ (listed : Array Bool) (t : ef) : Bool :=
  (match t.cJ with | some p => listed.getD p false | none => true) && (match t.use with | some c => !(listed.getD c false) | none => true)
def tA (ps : List eR) (t : ef) (i : Nat) : Bool := match t.cJ with | some p => mem p (fg ps i) | none => true
def uk (ps : List eR) (n : Nat) (t : ef) : Bool :=
  (match t.use with | some c => tA ps t c && Nat.blt c n | none => true) && (match t.cJ with | some p => Nat.blt p n | none => true) &&
  t.rd.all (fun i => tA ps t i && Nat.blt i n && (match t.use with | some c => mem i (fg ps c) | none => true))
def QO (C : Ctx) (l : List Oper) (ps : List eR) (i : Nat) : Bool := xX C l ps [] i
def xb (C : Ctx) (l : List Oper) (ps : List eR) (ts : List ef) : Bool := (List.range l.length).all (xX C l ps []) && ts.all (uk ps l.length)
structure tQ (ps : List eR) (n : Nat) (t : ef) : Prop where
  use : ∀ c, t.use = some c → c < n ∧ ∀ p, t.cJ = some p → p ∈ fg ps c
  cJ : ∀ p, t.cJ = some p → p < n
  rd : ∀ i, i ∈ t.rd → (∀ p, t.cJ = some p → p ∈ fg ps i) ∧ i < n ∧ ∀ c, t.use = some c → i ∈ fg ps c
theorem Du {ps : List eR} {n : Nat} {t : ef} (h : uk ps n t = true) : tQ ps n t := by
  unfold uk at h
  simp only [Bool.and_eq_true] at h
  obtain ⟨⟨h1, h2⟩, h3⟩ := h
  have ah : ∀ i, tA ps t i = true → ∀ p, t.cJ = some p → p ∈ fg ps i := by
    intro i hi p hp
    unfold tA at hi
    rw [hp] at hi
    exact mem_iff.1 hi
  refine ⟨fun c hc => ?_, fun p hp => ?_, fun i hi => ?_⟩
  · rw [hc] at h1
    simp only [Bool.and_eq_true] at h1
    exact ⟨fU h1.2, ah c h1.1⟩
  · rw [hp] at h2; exact fU h2
  · have := List.all_eq_true.1 h3 i hi
    simp only [Bool.and_eq_true] at this
    refine ⟨ah i this.1.1, fU this.1.2, fun c hc => ?_⟩
    have h4 := this.2
    rw [hc] at h4
    exact mem_iff.1 h4
theorem lG {α : Type} (p : α → Bool) (l : List α) : l.Perm (l.filter p ++ l.filter (fun x => !p x)) := (List.filter_append_perm p l).symm
section
variable {C : Ctx} {l : List Oper} {E0 : Env} {ps : List eR} {ts : List ef} {Φ : Nat → Yv → Prop} {A : List ad}
structure Lg (C : Ctx) (l : List Oper) (E0 : Env) (ps : List eR) (ts : List ef) (Φ : Nat → Yv → Prop) (A : List ad) (listed : Array Bool) (a : Act) (w : World) (y : Yv) : Prop where
  size : listed.size = l.length
  wa : ∀ i, done listed i → ∀ j ∈ fg ps i, done listed j
  defers : a.defers = C.D
  sR : a.tmps.size = C.n
  Au : ∀ i, done listed i → ∀ t, eV l i = some t → a.tmps[t]? = some (y i)
  AK : ∀ s v, E0.get s = some v → (∀ j, done listed j → eV l j ≠ some s) → a.tmps[s]? = some v
  Ha : ∀ i, done listed i → Φ i y
  inv : Inv C.w0 (fb (ts.filter (hJ listed)) y ++ A) w
def JJ (C : Ctx) (l : List Oper) (E0 : Env) (ps : List eR) (ts : List ef) (A0 : List ad) (Φ : Nat → Yv → Prop) (i : Nat) : Prop :=
  ∀ o p, l[i]? = some o → ps[i]? = some p → ∀ y M, (∀ j ∈ p.gB, Φ j y) →
    Step C l.toArray o (ry l E0 p y) (fb (iH ts i) y ++ (fb (fu ts i) y ++ (M ++ A0))) (fun v L' => Φ i (eS y i v) ∧ L'.Perm (fb (hG ts i) (eS y i v) ++ (fb (fu ts i) y ++ (M ++ A0))))
theorem Dw (hok : ∀ i, i < l.length → ∃ o p, l[i]? = some o ∧ ps[i]? = some p ∧ vL C l ps [] i o p) (htok : ∀ t ∈ ts, tQ ps l.length t) (hlen : ps.length = l.length)
    (hobl : ∀ i, i < l.length → JJ C l E0 ps ts A Φ i) (hloc : ∀ i y y', (∀ j, j = i ∨ j ∈ fg ps i → y j = y' j) → Φ i y → Φ i y')
    (hlocT : ∀ t ∈ ts, ∀ y y' : Yv, (∀ p, t.cJ = some p → ∀ j, j = p ∨ j ∈ fg ps p → y j = y' j) → t.a y = t.a y')
    {Q : Exit → Act → World → Prop} (hX : ∀ ch E L a w, gl C E a → Inv C.w0 L w → C.X ch L → Q (.panic ch) a w) (hQ : ∀ a w y, (∀ i, i < l.length → Φ i y) → a.defers = C.D → a.tmps.size = C.n → (∀ i, i < l.length → ∀ t, eV l i = some t → a.tmps[t]? = some (y i)) →
      (∀ s v, E0.get s = some v → (∀ j, eV l j ≠ some s) → a.tmps[s]? = some v) → Inv C.w0 (fb (uB ts) y ++ A) w → Q .normal a w) :
    ∀ (fuel : Nat) (listed : Array Bool) (a : Act) (w : World) (y : Yv), Lg C l E0 ps ts Φ A listed a w y →
      ((List.range l.length).filter fun i => !listed.getD i true).length ≤ fuel → wpAny C.P .any l.toArray Q fuel listed a w := by
  have fin : ∀ (listed : Array Bool) (a : Act) (w : World) (y : Yv), Lg C l E0 ps ts Φ A listed a w y → Region.ready .any l.toArray listed = [] → Q .normal a w := by
    intro listed a w y hinv hr
    have hall : ∀ i, i < l.length → done listed i := by
      intro i
      induction i using Nat.strongRecOn with
      | _ i ih =>
        intro hi
        obtain ⟨o, p, ho, hp, ok⟩ := hok i hi
        have hlt : i < listed.size := by rw [hinv.size]; exact hi
        cases hd : listed.getD i true with
        | true => unfold done; simp [hlt] at hd ⊢; exact hd
        | false =>
          exfalso
          have : i ∈ Region.ready .any l.toArray listed := mem_ready.2 ⟨hd, o, by simpa using ho, fun e he hb => ?_⟩
          · rw [hr] at this; cases this
          · have hj : e.on ∈ mw o := List.mem_filterMap.2 ⟨e, by simpa using he, by simp [hb]⟩
            have hlt2 := ok.NV _ hj
            exact ih e.on hlt2 (by omega)
    have hlive : ts.filter (hJ listed) = uB ts := by
      unfold uB
      apply List.filter_congr
      intro t ht
      have hk := htok t ht
      unfold hJ
      have h1 : (match t.cJ with | some p => listed.getD p false | none => true) = true := by
        split
        · rename_i p hp; exact hall p (hk.cJ p hp)
        · rfl
      rw [h1, Bool.true_and]
      split
      · rename_i c hc
        rw [show listed.getD c false = true from hall c (hk.use c hc).1, hc]
        rfl
      · rename_i hc; rw [hc]; rfl
    have hi := hinv.inv
    rw [hlive] at hi
    exact hQ a w y (fun i hi => hinv.Ha i (hall i hi)) hinv.defers hinv.sR (fun i hi => hinv.Au i (hall i hi)) (fun s v hs hne => hinv.AK s v hs (fun j _ => hne j)) hi
  intro fuel
  induction fuel with
  | zero =>
    intro listed a w y hinv hn
    have hr : Region.ready .any l.toArray listed = [] := by
      apply List.eq_nil_iff_forall_not_mem.2
      intro i hi
      obtain ⟨h1, o, ho, _⟩ := mem_ready.1 hi
      have hlt : i < l.length := by
        have : l[i]? = some o := by simpa using ho
        exact (List.getElem?_eq_some_iff.1 this).1
      have : i ∈ ((List.range l.length).filter fun i => !listed.getD i true) := List.mem_filter.2 ⟨List.mem_range.2 hlt, by simp only [h1]; rfl⟩
      have h0 := List.eq_nil_of_length_eq_zero (Nat.le_zero.1 hn)
      rw [h0] at this
      cases this
    exact ⟨hr, fin listed a w y hinv hr⟩
  | succ fuel ih =>
    intro listed a w y hinv hn
    refine ⟨fin listed a w y hinv, fun i hi => ?_⟩
    have hlt : i < l.length := by
      obtain ⟨h1, o, ho, _⟩ := mem_ready.1 hi
      have : l[i]? = some o := by simpa using ho
      exact (List.getElem?_eq_some_iff.1 this).1
    obtain ⟨o, p, ho, hp, ok⟩ := hok i hlt
    obtain ⟨hun, hb⟩ := yz ho hi
    have hnd : ¬ done listed i := fun h => by unfold done at h; rw [qu hun] at h; cases h
    have hpa : fg ps i = p.gB := by simp [fg, hp]
    have hanc : ∀ j ∈ p.gB, done listed j := by
      intro j hj
      rcases (ok.gB j hj).2 with h | ⟨k, hk, h⟩
      · exact hb j h
      · exact hinv.wa k (hb k hk) j h
    have hancn : ∀ j, done listed j → i ∉ fg ps j := fun j hj hm => hnd (hinv.wa j hj i hm)
    have hself : ∀ j, done listed j → j ≠ i := fun j hj e => hnd (e ▸ hj)
    have hagr : gl C (ry l E0 p y) a := by
      refine ⟨hinv.defers, hinv.sR, fun d v hd => ?_⟩
      have hm := Env.get_mem hd
      unfold ry at hm
      rcases List.mem_append.1 hm with h | h
      · obtain ⟨j, hj, hj2⟩ := List.mem_filterMap.1 h
        split at hj2
        · rename_i t ht
          cases hj2
          exact hinv.Au j (hanc j (ok.jB j hj)) d ht
        · cases hj2
      · obtain ⟨s, hs, hs2⟩ := List.mem_filterMap.1 h
        split at hs2
        · rename_i u hu
          cases hs2
          refine hinv.AK d v hu (fun j hj e => ?_)
          rcases ok.l9 d hs j e with h | h
          · exact hself j hj h
          · exact hnd (hinv.wa j hj i h)
        · cases hs2
    have hdst : eV l i = o.dst := by simp [eV, ho]
    have hilt : i < listed.size := by rw [hinv.size]; exact hlt
    have hset : ∀ j d, (listed.setIfInBounds i true).getD j d = if j = i then true else listed.getD j d := by
      intro j d
      by_cases hij : i = j
      · subst hij; simp [hilt]
      · rw [getD_set_ne d hij, if_neg (fun e => hij e.symm)]
    have hdone' : ∀ j, done (listed.setIfInBounds i true) j ↔ j = i ∨ done listed j := by
      intro j
      unfold done
      rw [hset]
      by_cases e : j = i <;> simp [e]
    have hcnt : ((List.range l.length).filter fun j => !(listed.setIfInBounds i true).getD j true).length ≤ fuel := by
      have hsub : ((List.range l.length).filter fun j => !(listed.setIfInBounds i true).getD j true) = ((List.range l.length).filter fun j => !listed.getD j true).filter (fun j => !(j == i)) := by
        rw [List.filter_filter]
        apply List.filter_congr
        intro j _
        rw [hset]
        by_cases e : j = i
        · subst e; simp
        · simp [e]
      have hmem : i ∈ ((List.range l.length).filter fun j => !listed.getD j true) := List.mem_filter.2 ⟨List.mem_range.2 hlt, by simp only [hun]; rfl⟩
      rw [hsub]
      have hlt2 : (((List.range l.length).filter fun j => !listed.getD j true).filter (fun j => !(j == i))).length < ((List.range l.length).filter fun j => !listed.getD j true).length :=
        List.length_filter_lt_length_iff_exists.2 ⟨i, hmem, by simp⟩
      omega
    let Lv := ts.filter (hJ listed)
    let rest := (Lv.filter (fun t => !(jq t.use i))).filter (fun t => !(mem i t.rd))
    have hirr : i ∉ fg ps i := by
      rw [hpa]; intro h; exact absurd (ok.gB i h).1 (Nat.lt_irrefl _)
    have bydone : ∀ t ∈ ts, (∀ q, t.cJ = some q → q ∈ fg ps i) → (match t.cJ with | some q => listed.getD q false | none => true) = true := by
      intro t ht h
      split
      · rename_i q hq; exact hanc q (by rw [← hpa]; exact h q hq)
      · rfl
    have hcl : ∀ t ∈ ts, jq t.use i = true → hJ listed t = true := by
      intro t ht hu
      have hu := oB.1 hu
      have hk := htok t ht
      unfold hJ
      rw [bydone t ht (hk.use i hu).2, hu]
      have : listed.getD i false = false := qu hun
      simp [this]
    have hrl : ∀ t ∈ ts, mem i t.rd = true → hJ listed t = true ∧ jq t.use i = false := by
      intro t ht hr
      have hk := (htok t ht).rd i (mem_iff.1 hr)
      have hnu : jq t.use i = false := by
        cases e : jq t.use i with
        | false => rfl
        | true => exact absurd (hk.2.2 i (oB.1 e)) hirr
      refine ⟨?_, hnu⟩
      unfold hJ
      rw [bydone t ht hk.1, Bool.true_and]
      split
      · rename_i c hc
        have : listed.getD c false = false := by
          cases e : listed.getD c false with
          | false => rfl
          | true => exact absurd (hk.2.2 c hc) (hancn c e)
        rw [this]; rfl
      · rfl
    have hf1 : Lv.filter (fun t => jq t.use i) = iH ts i := by
      show (ts.filter _).filter _ = ts.filter _
      rw [List.filter_filter]
      apply List.filter_congr
      intro t ht
      cases e : jq t.use i with
      | false => simp
      | true => simp [hcl t ht e]
    have hf2 : (Lv.filter (fun t => !(jq t.use i))).filter (fun t => mem i t.rd) = fu ts i := by
      show ((ts.filter _).filter _).filter _ = ts.filter _
      rw [List.filter_filter, List.filter_filter]
      apply List.filter_congr
      intro t ht
      cases e : mem i t.rd with
      | false => simp
      | true => obtain ⟨h1, h2⟩ := hrl t ht e; simp [h1, h2]
    have hperm1 : Lv.Perm (iH ts i ++ (fu ts i ++ rest)) := by
      have h1 := lG (fun t => jq t.use i) Lv
      have h2 := lG (fun t => mem i t.rd) (Lv.filter (fun t => !(jq t.use i)))
      rw [hf1] at h1
      rw [hf2] at h2
      exact h1.trans (List.Perm.append_left _ h2)
    have hperm2 : (ts.filter (hJ (listed.setIfInBounds i true))).Perm (hG ts i ++ (fu ts i ++ rest)) := by
      have h1 := lG (fun t => jq t.cJ i) (ts.filter (hJ (listed.setIfInBounds i true)))
      have e1 : (ts.filter (hJ (listed.setIfInBounds i true))).filter (fun t => jq t.cJ i) = hG ts i := by
        rw [List.filter_filter]
        apply List.filter_congr
        intro t ht
        cases e : jq t.cJ i with
        | false => simp
        | true =>
          have hbi := oB.1 e
          have hk := htok t ht
          unfold hJ
          rw [hbi]
          simp only [hset, if_true, Bool.true_and]
          split
          · rename_i c hc
            have hci : i ∈ fg ps c := (hk.use c hc).2 i hbi
            have hne : c ≠ i := fun e => hirr (e ▸ hci)
            have : listed.getD c false = false := by
              cases e : listed.getD c false with
              | false => rfl
              | true => exact absurd hci (hancn c e)
            simp [hne, this]
          · rfl
      have e2 : (ts.filter (hJ (listed.setIfInBounds i true))).filter (fun t => !(jq t.cJ i)) = Lv.filter (fun t => !(jq t.use i)) := by
        show _ = (ts.filter _).filter _
        rw [List.filter_filter, List.filter_filter]
        apply List.filter_congr
        intro t ht
        unfold hJ
        have hb1 : (!(jq t.cJ i) && (match t.cJ with | some p => (listed.setIfInBounds i true).getD p false | none => true)) = (match t.cJ with | some p => listed.getD p false | none => true) := by
          split
          · rename_i q hq
            rw [hq, hset]
            by_cases e : q = i
            · subst e
              have : listed.getD q false = false := qu hun
              simp [jq, this]
            · have : jq (some q) i = false := by
                cases h : jq (some q) i with
                | false => rfl
                | true => have := oB.1 h; simp at this; exact absurd this e
              simp [e, this]
          · rename_i hq; rw [hq]; rfl
        have hu1 : (match t.use with | some c => !((listed.setIfInBounds i true).getD c false) | none => true) = (!(jq t.use i) && (match t.use with | some c => !(listed.getD c false) | none => true)) := by
          split
          · rename_i c hc
            rw [hc, hset]
            by_cases e : c = i
            · subst e; simp [jq]
            · have : jq (some c) i = false := by
                cases h : jq (some c) i with
                | false => rfl
                | true => have := oB.1 h; simp at this; exact absurd this e
              simp [e, this]
          · rename_i hc; rw [hc]; rfl
        rw [hu1, ← hb1]
        simp only [Bool.and_assoc, Bool.and_left_comm]
      rw [e1, e2] at h1
      have h2 := lG (fun t => mem i t.rd) (Lv.filter (fun t => !(jq t.use i)))
      rw [hf2] at h2
      exact h1.trans (List.Perm.append_left _ h2)
    have hsame : ∀ v, ∀ t ∈ ts, hJ listed t = true → t.a (eS y i v) = t.a y := by
      intro v t ht hl
      refine hlocT t ht _ _ (fun q hq j hj => wD ?_)
      have hqd : done listed q := by
        unfold hJ at hl
        rw [hq] at hl
        simp only [Bool.and_eq_true] at hl
        exact hl.1
      rcases hj with rfl | hj
      · exact hself _ hqd
      · exact hself _ (hinv.wa q hqd j hj)
    have hrestT : ∀ t ∈ rest, t ∈ ts ∧ hJ listed t = true := by
      intro t ht
      have h1 := (List.mem_filter.1 (List.mem_filter.1 (List.mem_filter.1 ht).1).1)
      exact h1
    have hstep := hobl i hlt o p ho hp y (fb rest y) (fun j hj => hinv.Ha j (hanc j hj))
    have hinv1 : Inv C.w0 (fb (iH ts i) y ++ (fb (fu ts i) y ++ (fb rest y ++ A))) w := by
      refine hinv.inv.perm ?_
      have := (List.Perm.map (fun t : ef => t.a y) hperm1).append_right A
      simpa [fb, List.append_assoc] using this
    have hK : ∀ v L' w', (Φ i (eS y i v) ∧ L'.Perm (fb (hG ts i) (eS y i v) ++ (fb (fu ts i) y ++ (fb rest y ++ A)))) → Inv C.w0 L' w' → wpAny C.P .any l.toArray Q fuel (listed.setIfInBounds i true) (a.put o.dst v) w' := by
      rintro v L' w' ⟨h1, h2⟩ hi'
      refine ih _ _ _ (eS y i v) ⟨by simp [hinv.size], ?_, ?_, ?_, ?_, ?_, ?_, ?_⟩ hcnt
      · intro j hj q hq
        rcases (hdone' j).1 hj with rfl | hj
        · exact (hdone' q).2 (.inr (hanc q (by rw [← hpa]; exact hq)))
        · exact (hdone' q).2 (.inr (hinv.wa j hj q hq))
      · cases o.dst <;> exact hinv.defers
      · cases o.dst <;> simp [Act.put, hinv.sR]
      · intro j hj t ht
        rcases (hdone' j).1 hj with rfl | hj
        · rw [hdst] at ht
          rw [ht, mZ]
          have := (ok.dst t ht).1
          simp [Act.put, hinv.sR, this]
        · rw [wD (hself j hj)]
          have hv := hinv.Au j hj t ht
          cases hod : o.dst with
          | none => exact hv
          | some u =>
            have hne : u ≠ t := fun e => (ok.dst u hod).2 j (hself j hj) (e ▸ ht)
            simp only [Act.put]
            rw [Array.getElem?_setIfInBounds_ne hne]
            exact hv
      · intro s v' hs hne
        have hv := hinv.AK s v' hs (fun j hj => hne j ((hdone' j).2 (.inr hj)))
        cases hod : o.dst with
        | none => exact hv
        | some u =>
          have hne2 : u ≠ s := fun e => hne i ((hdone' i).2 (.inl rfl)) (by rw [hdst, hod, e])
          simp only [Act.put]
          rw [Array.getElem?_setIfInBounds_ne hne2]
          exact hv
      · intro j hj
        rcases (hdone' j).1 hj with rfl | hj
        · exact h1
        · refine hloc j y _ (fun q hq => (wD ?_).symm) (hinv.Ha j hj)
          rcases hq with rfl | hq
          · exact hself _ hj
          · exact hself _ (hinv.wa j hj q hq)
      · refine (hi'.perm h2).perm ?_
        have hp2 := (List.Perm.map (fun t : ef => t.a (eS y i v)) hperm2).append_right A
        have er : (fu ts i).map (fun t : ef => t.a (eS y i v)) = fb (fu ts i) y := List.map_congr_left (fun t ht => by
          have := List.mem_filter.1 ht
          exact hsame v t this.1 (hrl t this.1 this.2).1)
        have er2 : rest.map (fun t : ef => t.a (eS y i v)) = fb rest y := List.map_congr_left (fun t ht => hsame v t (hrestT t ht).1 (hrestT t ht).2)
        simp only [List.map_append, er, er2] at hp2
        refine List.Perm.trans ?_ hp2.symm
        simp [fb, List.append_assoc]
    have h5 := hstep a w (wpAny C.P .any l.toArray Q fuel (listed.setIfInBounds i true)) ⟨Q, hX⟩ hagr hinv1 hK
    unfold wpOp
    have ho' : l.toArray[i]? = some o := by simpa using ho
    simp only [ho']
    by_cases hw : Region.wanted o (yielded l.toArray a.tmps) = true
    · rw [if_pos hw] at h5 ⊢; exact .inl h5
    · rw [if_neg hw] at h5 ⊢; exact h5
theorem K2 {Q : QT} {id : Nat} (ps : List eR) (ts : List ef) (Φ : Nat → Yv → Prop) {L : List ad}
    (hm : C.P.follows .mixedOrders = true) (hB : xb C l ps ts = true) (hlen : ps.length = l.length) (h0 : ∃ y0, L.Perm (fb (pU ts) y0 ++ A))
    (hloc : ∀ i y y', (∀ j, j = i ∨ j ∈ fg ps i → y j = y' j) → Φ i y → Φ i y')
    (hlocT : ∀ t ∈ ts, ∀ y y' : Yv, (∀ p, t.cJ = some p → ∀ j, j = p ∨ j ∈ fg ps p → y j = y' j) → t.a y = t.a y')
    (hobl : ∀ i, i < l.length → JJ C l E0 ps ts A Φ i)
    (k : ∀ y, (∀ i, i < l.length → Φ i y) → Q .normal (sd l y l.length E0) (fb (uB ts) y ++ A)) (hX : ∀ ch E L, C.X ch L → Q (.panic ch) E L := by exact fun _ _ _ h => h) : Wp C (.region id l.toArray true) Q E0 L := by
  intro a w ha hi
  obtain ⟨y0, h0⟩ := h0
  unfold xb at hB
  simp only [Bool.and_eq_true] at hB
  have hok : ∀ i, i < l.length → ∃ o p, l[i]? = some o ∧ ps[i]? = some p ∧ vL C l ps [] i o p := fun i hi => vf (List.all_eq_true.1 hB.1 i (List.mem_range.2 hi))
  have htok : ∀ t ∈ ts, tQ ps l.length t := fun t ht => Du (List.all_eq_true.1 hB.2 t ht)
  refine wp_region_any hm ?_
  have hs : l.toArray.size = l.length := by simp
  rw [hs]
  refine Dw (E0 := E0) (Φ := Φ) (A := A) hok htok hlen hobl hloc hlocT (fun ch E L a w h1 h2 h3 => ⟨E, L, h1, h2, hX ch E L h3⟩) ?_ l.length (Array.replicate l.length false) a _ y0 ?_ ?_
  · intro a w y p2 p3 p4 p5 p6 p7
    refine ⟨_, _, ⟨p3, p4, ?_⟩, p7, k y p2⟩
    have key : ∀ (n : Nat), n ≤ l.length → ∀ d v, (sd l y n E0).get d = some v → (∃ i, i < n ∧ eV l i = some d ∧ v = y i) ∨ (E0.get d = some v ∧ ∀ i, i < n → eV l i ≠ some d) := by
      intro n
      induction n with
      | zero => intro _ d v h; exact .inr ⟨h, fun i hi => absurd hi (by omega)⟩
      | succ n ih =>
        intro hn d v h
        simp only [sd] at h
        split at h
        · rename_i t ht
          rw [Env.jl] at h
          by_cases e : t = d
          · subst e; simp at h; exact .inl ⟨n, by omega, ht, h.symm⟩
          · simp only [e, if_false] at h
            rcases ih (by omega) d v h with ⟨i, hi, h1, h2⟩ | ⟨h1, h2⟩
            · exact .inl ⟨i, by omega, h1, h2⟩
            · refine .inr ⟨h1, fun i hi => ?_⟩
              by_cases e2 : i = n
              · subst e2; rw [ht]; intro e3; cases e3; exact e rfl
              · exact h2 i (by omega)
        · rename_i ht
          rcases ih (by omega) d v h with ⟨i, hi, h1, h2⟩ | ⟨h1, h2⟩
          · exact .inl ⟨i, by omega, h1, h2⟩
          · refine .inr ⟨h1, fun i hi => ?_⟩
            by_cases e2 : i = n
            · subst e2; rw [ht]; simp
            · exact h2 i (by omega)
    intro d v h
    rcases key l.length (Nat.le_refl _) d v h with ⟨i, hi, h1, rfl⟩ | ⟨h1, h2⟩
    · exact p5 i hi d h1
    · exact p6 d v h1 (fun j hj => h2 j (rW hj) hj)
  · have hnone : ∀ j, ¬ done (Array.replicate l.length false) j := fun j h => by
      unfold done at h
      rw [jE] at h
      cases h
    have hlive : ts.filter (hJ (Array.replicate l.length false)) = pU ts := by
      unfold pU
      apply List.filter_congr
      intro t ht
      unfold hJ
      cases h1 : t.cJ with
      | some q => simp only [jE, Bool.false_and]; rfl
      | none =>
        simp only [Bool.true_and]
        cases h2 : t.use with
        | some c => simp only [jE]; rfl
        | none => rfl
    exact ⟨by simp, fun i h => absurd h (hnone i), ha.defers, ha.size, fun i h => absurd h (hnone i), fun s v hs _ => ha.get s v hs, fun i h => absurd h (hnone i), by
      rw [hlive]
      exact hi.drew.perm h0⟩
  · exact Nat.le_trans (List.length_filter_le _ _) (by simp)
end
end Go.Sl
namespace Go.Sl
open Go.RowKit (Below)
structure ib where
  V : List (Yv → Value)
  P : List (Yv → Prop)
def ib.put (c : ib) (f : Yv → Value) (q : Yv → Prop) : ib := ⟨f :: c.V, q :: c.P⟩
def kX (l : List Oper) (E0 : Env) (p : eR) (i : Nat) (c : ib) (y : Yv) : Env :=
  (p.jB.filterMap fun j => match eV l j with | some t => (match c.V[i - 1 - j]? with | some f => some (t, f y) | none => none) | none => none) ++ p.l9.filterMap fun s => match E0.get s with | some v => some (s, v) | none => none
def sa (l : List Oper) (n : Nat) (c : ib) (y : Yv) : Nat → Env → Env
  | 0, E => E
  | i + 1, E => match eV l i with | some t => (match c.V[n - 1 - i]? with | some f => (t, f y) :: sa l n c y i E | none => sa l n c y i E) | none => sa l n c y i E
structure dO (c : ib) (i : Nat) (j : Nat) (y : Yv) : Prop where
  val : ∃ f q, c.V[i - 1 - j]? = some f ∧ c.P[i - 1 - j]? = some q ∧ y j = f y ∧ q y
theorem dO.fact {c : ib} {i j : Nat} {y : Yv} (h : dO c i j y) {q : Yv → Prop} (hq : c.P[i - 1 - j]? = some q) : q y := by
  obtain ⟨f, q', _, e, _, k⟩ := h.val
  rw [hq] at e
  cases e
  exact k
section
variable {C : Ctx} {E0 : Env} {Q : QT} {L : List ad}
def iz (C : Ctx) (l : List Oper) (E0 : Env) (ts : List ef) (A0 : List ad) : Nat → ib → List Oper → List eR → (ib → Prop) → Prop
  | _, c, [], [], K => K c
  | i, c, o :: os, p :: ps, K => ∃ (f : Yv → Value) (q : Yv → Prop), Loc i p f ∧ Loc i p q ∧
      (∀ y M, (∀ j ∈ p.gB, dO c i j y) → Step C l.toArray o (kX l E0 p i c y) (fb (iH ts i) y ++ (fb (fu ts i) y ++ (M ++ A0))) (fun v L' => f (eS y i v) = v ∧ q (eS y i v) ∧ L'.Perm (fb (hG ts i) (eS y i v) ++ (fb (fu ts i) y ++ (M ++ A0))))) ∧ iz C l E0 ts A0 (i + 1) (c.put f q) os ps K
  | _, _, _, _, _ => False
section
variable {l : List Oper} {ts : List ef} {i : Nat} {c : ib} {o : Oper} {os : List Oper} {ps : List eR} {f : Yv → Value} {K : ib → Prop} {A0 : List ad}
theorem aX (h : K c) : iz C l E0 ts A0 i c [] [] K := h
theorem bU {p : eR} (E : Yv → Env) (hE : ∀ y, kX l E0 p i c y = E y) (hc : iH ts i = []) (hr : fu ts i = []) (hp : hG ts i = []) (h : ∀ y, (∀ j ∈ p.gB, dO c i j y) → ∀ L, Step C l.toArray o (E y) L (fun v' L' => v' = f y ∧ L' = L)) (hf : ∀ y v, f (eS y i v) = f y) (hloc : Loc i p f)
    (r : iz C l E0 ts A0 (i + 1) (c.put f (fun _ => True)) os ps K) : iz C l E0 ts A0 i c (o :: os) (p :: ps) K :=
  ⟨f, (fun _ => True), hloc, fun _ _ _ => rfl, fun y M h3 a w K' Q ha hi hK => by
    rw [hE] at ha
    simp only [hc, hr, hp, fb, List.map_nil, List.nil_append] at hi hK
    exact h y h3 _ a w K' Q ha hi (fun v' L' w' ⟨e1, e2⟩ hi' => hK v' L' w' ⟨by rw [hf, e1], trivial, by rw [e2]⟩ hi'), r⟩
theorem jM {p : eR} (R : Yv → List ad) (E : Yv → Env) (hE : ∀ y, kX l E0 p i c y = E y) (hc : iH ts i = []) (hr : ∀ y, fb (fu ts i) y = R y) (hp : hG ts i = []) (h : ∀ y A, (∀ j ∈ p.gB, dO c i j y) → Step C l.toArray o (E y) (R y ++ A) (fun v' L' => v' = f y ∧ L' = R y ++ A)) (hf : ∀ y v, f (eS y i v) = f y) (hloc : Loc i p f)
    (r : iz C l E0 ts A0 (i + 1) (c.put f (fun _ => True)) os ps K) : iz C l E0 ts A0 i c (o :: os) (p :: ps) K :=
  ⟨f, (fun _ => True), hloc, fun _ _ _ => rfl, fun y M h3 a w K' Q ha hi hK => by
    rw [hE] at ha
    rw [hc, hr] at hi
    rw [hp, hr] at hK
    exact h y (M ++ A0) h3 a w K' Q ha hi (fun v' L' w' ⟨e1, e2⟩ hi' => hK v' L' w' ⟨by rw [hf, e1], trivial, by rw [e2]; exact .refl _⟩ hi'), r⟩
theorem HU {p : eR} (T R M : Yv → List ad) (E : Yv → Env) (hE : ∀ y, kX l E0 p i c y = E y) (hc : ∀ y, fb (iH ts i) y = T y) (hr : ∀ y, fb (fu ts i) y = R y) (hp : ∀ y, fb (hG ts i) y = M y)
    (h : ∀ y A, (∀ j ∈ p.gB, dO c i j y) → Step C l.toArray o (E y) (T y ++ (R y ++ A)) (fun v' L' => v' = f y ∧ L'.Perm (M y ++ (R y ++ A)))) (hf : ∀ y v, f (eS y i v) = f y) (hM : ∀ y v, M (eS y i v) = M y) (hloc : Loc i p f)
    (r : iz C l E0 ts A0 (i + 1) (c.put f (fun _ => True)) os ps K) : iz C l E0 ts A0 i c (o :: os) (p :: ps) K :=
  ⟨f, (fun _ => True), hloc, fun _ _ _ => rfl, fun y M h3 a w K' Q ha hi hK => by
    rw [hE] at ha
    rw [hc, hr] at hi
    exact h y (M ++ A0) h3 a w K' Q ha hi (fun v' L' w' ⟨e1, e2⟩ hi' => hK v' L' w' ⟨by rw [hf, e1], trivial, by rw [hp, hM, hr]; exact e2⟩ hi'), r⟩
theorem gU {p : eR} (g : Yv → Value → Value) (Pv : Yv → Value → Prop) (T R : Yv → List ad) (M : Yv → Value → List ad) (E : Yv → Env) (hE : ∀ y, kX l E0 p i c y = E y) (hc : ∀ y, fb (iH ts i) y = T y) (hr : ∀ y, fb (fu ts i) y = R y) (hp : ∀ y, fb (hG ts i) y = M y (y i))
    (h : ∀ y A, (∀ j ∈ p.gB, dO c i j y) → Step C l.toArray o (E y) (T y ++ (R y ++ A)) (fun v' L' => v' = g y v' ∧ Pv y v' ∧ L'.Perm (M y v' ++ (R y ++ A)))) (hg : ∀ y v u, g (eS y i v) u = g y u) (hP : ∀ y v u, Pv (eS y i v) u = Pv y u) (hM : ∀ y v u, M (eS y i v) u = M y u) (hloc : Loc i p (fun y => g y (y i))) (hlocP : Loc i p (fun y => Pv y (y i)))
    (r : iz C l E0 ts A0 (i + 1) (c.put (fun y => g y (y i)) (fun y => Pv y (y i))) os ps K) : iz C l E0 ts A0 i c (o :: os) (p :: ps) K :=
  ⟨(fun y => g y (y i)), (fun y => Pv y (y i)), hloc, hlocP, fun y M h3 a w K' Q ha hi hK => by
    rw [hE] at ha
    rw [hc, hr] at hi
    exact h y (M ++ A0) h3 a w K' Q ha hi (fun v' L' w' ⟨e1, e2, e3⟩ hi' => hK v' L' w' ⟨by show g (eS y i v') (eS y i v' i) = v'; rw [hg, mZ]; exact e1.symm, by show Pv (eS y i v') (eS y i v' i); rw [hP, mZ]; exact e2, by rw [hp, hM, mZ, hr]; exact e3⟩ hi'), r⟩
end
theorem iz.get {l : List Oper} {ts : List ef} {A0 : List ad} {K : ib → Prop} : ∀ {i : Nat} {c : ib} {os : List Oper} {ps : List eR}, iz C l E0 ts A0 i c os ps K → c.V.length = i → c.P.length = i → (∀ (j : Nat) (p : eR), ps[j]? = some p → ∀ d, d ∈ p.jB ∨ d ∈ p.gB → d < i + j) →
    ∃ (fs : List (Yv → Value)) (qs : List (Yv → Prop)), fs.length = os.length ∧ qs.length = os.length ∧ K ⟨fs.reverse ++ c.V, qs.reverse ++ c.P⟩ ∧
      ∀ j o p f q, os[j]? = some o → ps[j]? = some p → fs[j]? = some f → qs[j]? = some q → Loc (i + j) p f ∧ Loc (i + j) p q ∧
        (∀ y M, (∀ d ∈ p.gB, ∃ f' q', (c.V.reverse ++ fs)[d]? = some f' ∧ (c.P.reverse ++ qs)[d]? = some q' ∧ y d = f' y ∧ q' y) → Step C l.toArray o (uA l E0 p (c.V.reverse ++ fs) y) (fb (iH ts (i + j)) y ++ (fb (fu ts (i + j)) y ++ (M ++ A0))) (fun v L' => f (eS y (i + j) v) = v ∧ q (eS y (i + j) v) ∧ L'.Perm (fb (hG ts (i + j)) (eS y (i + j) v) ++ (fb (fu ts (i + j)) y ++ (M ++ A0)))))
  | i, c, [], [], h, _, _, _ => ⟨[], [], rfl, rfl, h, fun j o p f q h => by simp at h⟩
  | i, c, o :: os, p :: ps, ⟨f, q, h1, h2, h4, h5⟩, hV, hP, hd => by
    obtain ⟨fs, qs, l1, l2, hK, hrest⟩ := iz.get h5 (by simp [ib.put, hV]) (by simp [ib.put, hP]) (fun j p hp d hdd => by have := hd (j + 1) p (by simpa using hp) d hdd; omega)
    have e1 : (c.put f q).V.reverse ++ fs = c.V.reverse ++ f :: fs := by simp [ib.put]
    have e2 : (c.put f q).P.reverse ++ qs = c.P.reverse ++ q :: qs := by simp [ib.put]
    rw [e1, e2] at hrest
    refine ⟨f :: fs, q :: qs, by simp [l1], by simp [l2], by simpa [ib.put] using hK, fun j o' p' f' q' ho hp hf hq => ?_⟩
    cases j with
    | succ j =>
      rw [show i + (j + 1) = i + 1 + j by omega]
      exact hrest j o' p' f' q' (by simpa using ho) (by simpa using hp) (by simpa using hf) (by simpa using hq)
    | zero =>
      simp at ho hp hf hq
      subst ho; subst hp; subst hf; subst hq
      refine ⟨h1, h2, fun y A hkn => ?_⟩
      have hd0 := hd 0 p (by simp)
      have get0 : ∀ {β : Type} (xs ys : List β) (x : β) (d : Nat), xs.length = i → d < i → (xs.reverse ++ x :: ys)[d]? = xs[i - 1 - d]? := by
        intro β xs ys x d hx hlt
        rw [List.getElem?_append_left (by simp; omega), List.getElem?_reverse (by omega), hx]
      have henv : uA l E0 p (c.V.reverse ++ f :: fs) y = kX l E0 p i c y := by
        unfold uA kX
        congr 1
        have hdd : ∀ d ∈ p.jB, d < i := fun d hd => by have := hd0 d (.inl hd); omega
        revert hdd
        generalize p.jB = ds
        intro hdd
        induction ds with
        | nil => rfl
        | cons d ds ih =>
          simp only [List.filterMap_cons, get0 c.V fs f d hV (hdd d (by simp))]
          rw [ih (fun d hd => hdd d (by simp [hd]))]
          cases eV l d with
          | none => rfl
          | some t => cases c.V[i - 1 - d]? <;> rfl
      rw [henv]
      refine h4 y A (fun j hj => ⟨?_⟩)
      obtain ⟨f', q', e1, e2, e3, e4⟩ := hkn j hj
      have hlt := hd0 j (.inr hj)
      rw [get0 c.V fs f j hV (by omega)] at e1
      rw [get0 c.P qs q j hP (by omega)] at e2
      exact ⟨f', q', e1, e2, e3, e4⟩
  | i, c, [], p :: ps, h, _, _, _ => h.elim
  | i, c, o :: os, [], h, _, _, _ => h.elim
def sH (ps : List eR) (ts : List ef) : Prop := ∀ t ∈ ts, ∀ y y' : Yv, (∀ p, t.cJ = some p → ∀ j, j = p ∨ j ∈ fg ps p → y j = y' j) → t.a y = t.a y'
theorem ir {ps : List eR} : sH ps [] := fun t h => by cases h
theorem cn {ps : List eR} {ts : List ef} {u : Option Nat} {r : List Nat} (a : ad) (h : sH ps ts) : sH ps (⟨fun _ => a, none, u, r⟩ :: ts) := fun t ht y y' hy => by
  rcases List.mem_cons.1 ht with rfl | ht
  · rfl
  · exact h t ht y y' hy
theorem eB {ps : List eR} {ts : List ef} {u : Option Nat} {r : List Nat} {p : Nat} {a : Yv → ad} (gB : List Nat) (ha : fg ps p = gB) (h1 : ∀ y y' : Yv, (∀ j, j = p ∨ j ∈ gB → y j = y' j) → a y = a y') (h : sH ps ts) : sH ps (⟨a, some p, u, r⟩ :: ts) := fun t ht y y' hy => by
  rcases List.mem_cons.1 ht with rfl | ht
  · exact h1 y y' (fun j hj => hy p rfl j (by rw [ha]; exact hj))
  · exact h t ht y y' hy
theorem ly {l : List Oper} {id : Nat} (ps : List eR) (ts : List ef) (A : List ad) (hm : C.P.follows .mixedOrders = true) (hB : xb C l ps ts = true) (hps : ps.length = l.length)
    (h0 : ∀ y, L.Perm (fb (pU ts) y ++ A)) (hlocT : sH ps ts)
    (how : iz C l E0 ts A 0 ⟨[], []⟩ l ps (fun c => ∀ y, (∀ j, j < l.length → dO c l.length j y) → Q .normal (sa l l.length c y l.length E0) (fb (uB ts) y ++ A))) (hX : ∀ ch E L, C.X ch L → Q (.panic ch) E L := by exact fun _ _ _ h => h) : Wp C (.region id l.toArray true) Q E0 L := by
  have hpar : ∀ (j : Nat), j < l.length → ∃ o p, l[j]? = some o ∧ ps[j]? = some p ∧ vL C l ps [] j o p := fun j hj => by
    unfold xb at hB
    simp only [Bool.and_eq_true] at hB
    exact vf (List.all_eq_true.1 hB.1 j (List.mem_range.2 hj))
  have hdeps : ∀ (j : Nat) (p : eR), ps[j]? = some p → ∀ d, d ∈ p.jB ∨ d ∈ p.gB → d < 0 + j := by
    intro j p hp d hd
    have hj : j < l.length := by rw [← hps]; exact (List.getElem?_eq_some_iff.1 hp).1
    obtain ⟨o', p', ho', hp', ok⟩ := hpar j hj
    rw [hp] at hp'
    cases hp'
    have := (ok.gB d (hd.elim (ok.jB d) (fun h => h))).1
    omega
  obtain ⟨V, P, lV, lP, hk, hget⟩ := how.get rfl rfl hdeps
  simp only [List.reverse_nil, List.nil_append, List.append_nil] at hk hget
  have hVP : ∀ i, i < l.length → ∃ p f q, ps[i]? = some p ∧ V[i]? = some f ∧ P[i]? = some q := fun i hi => ⟨ps[i], V[i], P[i], List.getElem?_eq_getElem (by omega), List.getElem?_eq_getElem (by omega), List.getElem?_eq_getElem (by omega)⟩
  refine K2 (A := A) (hX := hX) ps ts (fun i y => ∃ f q, V[i]? = some f ∧ P[i]? = some q ∧ y i = f y ∧ q y) hm hB hps ⟨fun _ => undef, h0 _⟩ ?_ hlocT ?_ ?_
  · rintro i y y' h ⟨f, q, e1, e2, e3, e4⟩
    have hi : i < l.length := by rw [← lV]; exact (List.getElem?_eq_some_iff.1 e1).1
    obtain ⟨p, f', q', hp, hf, hq⟩ := hVP i hi
    obtain ⟨h1, h2, _⟩ := hget i _ p f q (List.getElem?_eq_getElem hi) hp e1 e2
    rw [Nat.zero_add] at h1 h2
    have hanc : ∀ j, j = i ∨ j ∈ p.gB → y j = y' j := fun j hj => h j (hj.imp (fun h => h) (fun h => by simp [fg, hp, h]))
    exact ⟨f, q, e1, e2, by rw [← hanc i (.inl rfl), e3]; exact h1 y y' hanc, by rw [← h2 y y' hanc]; exact e4⟩
  · intro i hi o p ho hp y A' h3
    obtain ⟨p', f, q, hp', hf, hq⟩ := hVP i hi
    rw [hp] at hp'
    cases hp'
    have hdep : ∀ j ∈ p.jB, j ∈ p.gB := by
      obtain ⟨o', p', ho', hp', ok⟩ := hpar i hi
      rw [hp] at hp'
      cases hp'
      exact ok.jB
    have henv : ry l E0 p y = uA l E0 p V y := by
      unfold ry uA
      congr 1
      revert hdep
      generalize p.jB = ds
      intro hdep
      induction ds with
      | nil => rfl
      | cons j ds ih =>
        obtain ⟨fj, qj, e1, e2, e3, e4⟩ := h3 j (hdep j (by simp))
        simp only [List.filterMap_cons]
        cases hd : eV l j with
        | none => simpa using ih (fun j hj => hdep j (by simp [hj]))
        | some t =>
          simp only [e1, e3]
          rw [ih (fun j hj => hdep j (by simp [hj]))]
    rw [henv]
    obtain ⟨_, _, hst⟩ := hget i o p f q ho hp hf hq
    rw [Nat.zero_add] at hst
    intro a w K Qx ha hinv hK
    refine hst y A' h3 a w K Qx ha hinv ?_
    rintro v' M w' ⟨e1, e2, hM⟩ hi'
    exact hK v' M w' ⟨⟨f, q, hf, hq, by rw [mZ, e1], e2⟩, hM⟩ hi'
  · intro y hy
    have rev : ∀ {β : Type} (xs : List β) (j : Nat), xs.length = l.length → j < l.length → xs.reverse[l.length - 1 - j]? = xs[j]? := by
      intro β xs j hx hj
      rw [List.getElem?_reverse (by omega)]
      congr 1
      omega
    have h := hk y (fun j hj => by
      obtain ⟨f, q, e1, e2, e3, e4⟩ := hy j hj
      exact ⟨f, q, by rw [rev V j lV hj]; exact e1, by rw [rev P j lP hj]; exact e2, e3, e4⟩)
    have hfin : ∀ n, n ≤ l.length → sa l l.length ⟨V.reverse, P.reverse⟩ y n E0 = sd l y n E0 := by
      intro n
      induction n with
      | zero => intro _; rfl
      | succ n ih =>
        intro hn
        obtain ⟨f, q, e1, e2, e3, e4⟩ := hy n (by omega)
        simp only [sa, sd]
        rw [ih (by omega), rev V n lV (by omega), e1, e3]
        cases eV l n <;> rfl
    rw [hfin _ (Nat.le_refl _)] at h
    exact h
end
end Go.Sl
namespace Go.Sl
theorem Q9 {A B0 B1 B2 B3 B4 B5 B6 B7 : ad} {L : List ad} : A ∈ B0 :: B1 :: B2 :: B3 :: B4 :: B5 :: B6 :: B7 :: A :: L := .tail _ te
theorem O3 {A B0 B1 B2 B3 B4 B5 B6 B7 : ad} {L : List ad} : iq (B0 :: B1 :: B2 :: B3 :: B4 :: B5 :: B6 :: B7 :: A :: L) A (B0 :: B1 :: B2 :: B3 :: B4 :: B5 :: B6 :: B7 :: L) := .tail Dx
theorem RR {A A' B0 B1 B2 B3 B4 B5 B6 B7 : ad} {L : List ad} : jV (B0 :: B1 :: B2 :: B3 :: B4 :: B5 :: B6 :: B7 :: A :: L) A A' (B0 :: B1 :: B2 :: B3 :: B4 :: B5 :: B6 :: B7 :: A' :: L) := .tail O7
theorem RF {B0 B1 B2 B3 B4 B5 B6 B7 B8 : ad} {L : List ad} : Drop (B0 :: B1 :: B2 :: B3 :: B4 :: B5 :: B6 :: B7 :: B8 :: L) L := .skip Cw
theorem PW {B0 B1 B2 B3 B4 B5 B6 B7 B8 B9 : ad} {L : List ad} : Drop (B0 :: B1 :: B2 :: B3 :: B4 :: B5 :: B6 :: B7 :: B8 :: B9 :: L) L := .skip RF
section
variable {C : Ctx} {E : Env} {L F G : List ad} {ops : Array Oper} {d : Option Nat} {ty : TypeId} {pos : String} {aft : Array Edge} {op : Op} {o : Oper} {α : Type} {c : Ec α}
theorem uC {n : Nat} {l : List α} (h : kO C op ty E L (fun v L' => ∃ p' c', v = .slice p' n c' ∧ L' = Row c p' n c' l :: F)) (hF : F.Perm G) :
    Step C ops ⟨d, op, ty, pos, aft, none⟩ E L (fun v L' => v = .slice (gn v) n (iJ v) ∧ True ∧ L'.Perm ([Row c (gn v) n (iJ v) l] ++ G)) :=
  ux fun d pos aft g a w K Q ha hi hK => h d pos aft g a w K Q ha hi fun v L' w' ⟨p, c', e1, e2⟩ hi' => hK v L' w' (by subst e1; subst e2; exact ⟨rfl, trivial, List.Perm.cons _ hF⟩) hi'
def gC : Value → Nat | .pointer (some a) => a.block | _ => 0
theorem HZ {n m : Nat} {l : List α} (h : kO C op ty E L (fun v L' => ∃ b, v = .slice (some ⟨b, 0, none⟩) n m ∧ L' = Row c (some ⟨b, 0, none⟩) n m l :: L)) :
    Step C ops ⟨d, op, ty, pos, aft, none⟩ E L (fun v L' => v = .slice (some ⟨kL (gn v), 0, none⟩) n m ∧ True ∧ L'.Perm ([Row c (some ⟨kL (gn v), 0, none⟩) n m l] ++ L)) :=
  ux fun d pos aft g a w K Q ha hi hK => h d pos aft g a w K Q ha hi fun v L' w' ⟨b, e1, e2⟩ hi' => hK v L' w' (by subst e1; subst e2; exact ⟨rfl, trivial, List.Perm.refl _⟩) hi'
theorem vr {t : TypeId} {cs : List Value} (h : kO C op ty E L (fun v L' => ∃ b, v = .pointer (some ⟨b, 0, none⟩) ∧ L' = ao b t cs :: L)) :
    Step C ops ⟨d, op, ty, pos, aft, none⟩ E L (fun v L' => v = .pointer (some ⟨gC v, 0, none⟩) ∧ True ∧ L'.Perm ([ao (gC v) t cs] ++ L)) :=
  ux fun d pos aft g a w K Q ha hi hK => h d pos aft g a w K Q ha hi fun v L' w' ⟨b, e1, e2⟩ hi' => hK v L' w' (by subst e1; subst e2; exact ⟨rfl, trivial, List.Perm.refl _⟩) hi'
theorem bO {f : FuncId} {args : List Operand} {tys : Array TypeId} {vs : List Value} {Pre Post : List ad} {R : Value → List ad → Prop} {v0 : Value} (hS : aG C.P f vs Pre (aQ R)) (hb : aH C.P f = true) (hE : iL E args = some vs) (hL : fJ L Pre F) (hR : ∀ v G, R v G → v = v0 ∧ G.Perm Post) :
    Step C ops ⟨d, .call ⟨.value (.func f), args.toArray, tys⟩, ty, pos, aft, none⟩ E L (fun v L' => v = v0 ∧ L'.Perm (Post ++ F)) :=
  re hS hb hE hL fun v G hr => ⟨(hR v G hr).1, (hR v G hr).2.append_right F⟩
end
end Go.Sl
namespace Go.Sl
def Sw (P : Program) (f : FuncId) (e : Array Value → Sem Value) : Prop := ∃ fn, P.funcs[f]? = some fn ∧ (fn.name == "runtime.NumGoroutine") = false ∧ fn.body.isNone = true ∧ Extern.findNext fn = none ∧ Extern.find fn = some e
end Go.Sl
namespace Go.Sl
section
variable {C : Ctx} {Q : QT} {E : Env} {L : List ad} {ops : Array Oper} {rest : List Oper} {d : Nat} {ty : TypeId} {pos : String} {aft : Array Edge} {op : Op}
theorem pP {a : Act} {j : Nat} {want : Bool} {o oj : Oper} {t : Nat} (ha : gl C E a) (h1 : ops[j]? = some oj) (h2 : oj.dst = some t) (h3 : E.get t = some undef) (hg : o.guard = some (j, want)) : Region.wanted o (yielded ops a.tmps) = false := by
  have := ha.get t _ h3
  simp [Region.wanted, hg, yielded, h1, h2, this, undef]
theorem uy {j t : Nat} {want : Bool} {oj : Oper} (h1 : ops[j]? = some oj) (h2 : oj.dst = some t) (h3 : E.get t = some undef) (hd : Nat.blt d C.n = true) (h : dM C ops rest Q ((d, undef) :: E) L) : dM C ops (⟨some d, op, ty, pos, aft, some (j, want)⟩ :: rest) Q E L := by
  intro a w ha hi
  have hw := pP (o := ⟨some d, op, ty, pos, aft, some (j, want)⟩) ha h1 h2 h3 rfl
  unfold wpList
  rw [if_neg (by rw [hw]; simp)]
  exact h _ _ (ha.put (fU hd) _) hi
end
end Go.Sl
namespace Go.Sl
section
variable {C : Ctx} {Q : QT} {E : Env} {L F : List ad} {ops : Array Oper} {rest : List Oper} {d : Option Nat} {ty : TypeId} {pos : String} {aft : Array Edge}
theorem gr {c : Code} {A : ad} {ι : Sort _} {K : ι → Prop} {B : ι → List ad} (hr : iq L A F) (hA : ∀ h, A C.w0 h → ∃ i, K i ∧ dk C.w0 (B i) h) (k : ∀ i, K i → Wp C c Q E (B i ++ F)) : Wp C c Q E L := Ms hr.perm (gD hA k)
theorem DT {A : ad} {ι : Sort _} {K : ι → Prop} {B : ι → List ad} (hr : iq L A F) (hA : ∀ h, A C.w0 h → ∃ i, K i ∧ dk C.w0 (B i) h) (k : ∀ i, K i → dM C ops rest Q E (B i ++ F)) : dM C ops rest Q E L := tu hr.perm (G9 hA k)
theorem ve {α : Type} {c : Ec α} {n : Nat} {l : List α} {f : FuncId} {args : List Operand} {tys : Array TypeId} {vs : List Value} {Pre Post : List ad} (hS : aG C.P f vs Pre (aQ fun v G => ∃ p c', v = .slice p n c' ∧ G = Row c p n c' l :: Post)) (hb : aH C.P f = true) (hE : iL E args = some vs) (hL : fJ L Pre F) :
    Step C ops ⟨d, .call ⟨.value (.func f), args.toArray, tys⟩, ty, pos, aft, none⟩ E L (fun v L' => v = .slice (gn v) n (iJ v) ∧ True ∧ L'.Perm ((Row c (gn v) n (iJ v) l :: Post) ++ F)) :=
  re hS hb hE hL fun v G ⟨p, c', e1, e2⟩ => by subst e1; subst e2; exact ⟨rfl, trivial, .refl _⟩
end
end Go.Sl
namespace Go.Sl
section
variable {C : Ctx} {E : Env} {L F : List ad} {ops : Array Oper} {d : Option Nat} {ty : TypeId} {pos : String} {aft : Array Edge}
theorem lf {f : FuncId} {t : Nat} {args : List Operand} {tys : Array TypeId} {vs fs cs : List Value} {Pre Post : List ad} {R : Value → List ad → Prop} {v0 : Value} (hS : aG C.P f (fs ++ vs ++ cs) Pre (aQ R)) (hb : aH C.P f = true) (ht : E.get t = some (.func (.func f) fs.toArray cs.toArray)) (hE : iL E args = some vs) (hL : fJ L Pre F) (hR : ∀ v G, R v G → v = v0 ∧ G.Perm Post) :
    Step C ops ⟨d, .call ⟨.value (.tmp t), args.toArray, tys⟩, ty, pos, aft, none⟩ E L (fun v L' => v = v0 ∧ L'.Perm (Post ++ F)) := by
  intro a w K Qx ha hi hK
  rw [if_pos (by simp [Region.wanted])]
  have hargs := ha.iL hE
  have hev := ha.eval (x := .tmp t) ht
  have hr : (execOp a.eval ⟨d, .call ⟨.value (.tmp t), args.toArray, tys⟩, ty, pos, aft, none⟩).run C.P w = .ok (.enter f (fs ++ vs ++ cs).toArray) w := by
    simp only [execOp, resolve, hargs, hev, Deferred.ofValue, invoke, Sem.run_bind, Sem.run_pure, Result.andThen_ok, gS hb]
    simp
  unfold Oper.wp
  rw [hr]
  refine (hS C.w0 F w (hi.perm hL.perm)).mono ?_
  rintro e w' ⟨G, h1, v, rfl, h2⟩
  obtain ⟨h3, h4⟩ := hR v G h2
  exact hK v (G ++ F) w' ⟨h3, h4.append_right F⟩ h1
end
theorem tv {n : Int} (h1 : 0 ≤ n) (h2 : n < 18446744073709551616) : IntKind.u64.wrap n = n := by
  have e : IntKind.u64.wrap n = n % 18446744073709551616 := by simp [IntKind.wrap, IntKind.bits, IntKind.signed]
  rw [e]; omega
theorem Af {m : Int} (h : 0 ≤ m) : m.fdiv (2 ^ (min (1 : Int).toNat IntKind.u64.bits)) = m / 2 := by
  rw [show min (1 : Int).toNat IntKind.u64.bits = 1 from rfl, Int.fdiv_eq_ediv_of_nonneg _ (by decide)]
  rfl
def mG (a b : Int) : Int := if a < b then -1 else if b < a then 1 else 0
theorem kq {a b : Int} : mG a b < 0 ↔ a < b := by
  unfold mG; split
  · simp; assumption
  · split <;> simp <;> omega
end Go.Sl
namespace Go.Sl
theorem gP {α : Type} {c : Ec α} {Pd : α → Prop} {l : List α} {e : Int} {k : Nat} (h : e.toNat = k) (hp : Pd (l.getD k c.d)) : Pd (c.g l e) := by subst h; exact hp
theorem gE {α : Type} {c : Ec α} {l : List α} {e : Int} (k : Nat) (h : e.toNat = k) : c.g l e = l.getD k c.d := by subst h; rfl
end Go.Sl
namespace Go.Sl
def CA (pre : List Value) (k : IntKind) (xs : List Int) (post : List Value) : List Value := pre ++ (ints k xs ++ post)
theorem JM {pre post : List Value} {k : IntKind} {xs : List Int} {j : Nat} (h : j < xs.length) : (CA pre k xs post)[pre.length + j]? = some (.int k (xs.getD j 0)) := by
  unfold CA
  rw [List.getElem?_append_right (by omega), show pre.length + j - pre.length = j by omega, List.getElem?_append_left (by simpa [ints] using h), Ct h]
theorem Ia {pre post : List Value} {k : IntKind} {xs : List Int} {n i : Nat} (h : xs.length = n) : (CA pre k xs post)[pre.length + n + i]? = post[i]? := by
  unfold CA
  rw [List.getElem?_append_right (by omega), List.getElem?_append_right (by simp [ints]; omega)]
  congr 1
  simp [ints]; omega
theorem KX {pre post : List Value} {k : IntKind} {xs : List Int} {j : Nat} {m : Int} (h : j < xs.length) : (CA pre k xs post).set (pre.length + j) (.int k m) = CA pre k (xs.set j m) post := by
  unfold CA
  rw [List.set_append_right _ _ (by omega), show pre.length + j - pre.length = j by omega, List.set_append_left _ _ (by simpa [ints] using h), ints_set]
theorem Jh {pre post : List Value} {k : IntKind} {xs : List Int} {n i : Nat} {v : Value} (h : xs.length = n) : (CA pre k xs post).set (pre.length + n + i) v = CA pre k xs (post.set i v) := by
  unfold CA
  rw [List.set_append_right _ _ (by omega), List.set_append_right _ _ (by simp [ints]; omega)]
  congr 3
  simp [ints]; omega
theorem DJ (pre post : List Value) (k : IntKind) (xs : List Int) : (CA pre k xs post).length = pre.length + xs.length + post.length := by
  unfold CA; simp [ints]; omega
section
variable {C : Ctx} {E : Env} {L L' : List ad} {ty : TypeId} {v : Value} {pre post post' : List Value} {k : IntKind} {xs : List Int}
theorem nj {x : Operand} {t b q T : Nat} (i : Int) (hs : dq C.P t = true) (hx : aq E x = some (.pointer (some ⟨b, q, none⟩))) (hm : ao b T (CA pre k xs post) ∈ L) (hq : q = pre.length + i.toNat) (h0 : 0 ≤ i) (hlt : i < xs.length) : cF C (.load t x) ty E L (.int k (xs.getD i.toNat 0)) L :=
  ae hs hx hm (by rw [hq, JM (by omega)])
theorem lM {x : Operand} {t b q T n : Nat} (i : Nat) (hs : dq C.P t = true) (hx : aq E x = some (.pointer (some ⟨b, q, none⟩))) (hm : ao b T (CA pre k xs post) ∈ L) (hn : xs.length = n) (hq : q = pre.length + n + i) (hv : post[i]? = some v) : cF C (.load t x) ty E L v L :=
  ae hs hx hm (by rw [hq, Ia hn, hv])
theorem Dz {x : Operand} {t b q T n : Nat} (hs : ia C.P t = some n) (hx : aq E x = some (.pointer (some ⟨b, q, none⟩))) (hm : ao b T (CA pre k xs post) ∈ L) (hn : xs.length = n) (hq : q = pre.length) : cF C (.load t x) ty E L (.agg (ints k xs).toArray) L :=
  bG hs hx hm (by simp [ints, hn]) (by
    subst hq
    unfold CA
    rw [List.drop_left, List.take_left' (by simp [ints, hn])])
theorem zm {x y : Operand} {t b q T : Nat} {m : Int} (i : Int) (hs : dq C.P t = true) (hx : aq E x = some (.pointer (some ⟨b, q, none⟩))) (hy : aq E y = some (.int k m)) (hr : jV L (ao b T (CA pre k xs post)) (ao b T (CA pre k (xs.set i.toNat m) post)) L') (hq : q = pre.length + i.toNat) (h0 : 0 ≤ i) (hlt : i < xs.length) : cF C (.store t x y) ty E L undef L' :=
  bZ hs hx hy rfl hr (by rw [DJ]; omega) (by rw [hq, KX (by omega)])
theorem wT {x y : Operand} {t b q T n : Nat} {u : Value} (i : Nat) (hs : dq C.P t = true) (hx : aq E x = some (.pointer (some ⟨b, q, none⟩))) (hy : aq E y = some u) (h1 : u.oneCell' = true) (hr : jV L (ao b T (CA pre k xs post)) (ao b T (CA pre k xs post')) L') (hn : xs.length = n) (hq : q = pre.length + n + i) (hi : i < post.length) (hv : post.set i u = post') : cF C (.store t x y) ty E L undef L' :=
  bZ hs hx hy h1 hr (by rw [DJ]; omega) (by rw [hq, Jh hn, hv])
end
theorem wc (k : IntKind) (xs : List Int) : (Value.agg (ints k xs).toArray).cells.toList = CA [] k xs [] := by simp [Value.cells, CA]
end Go.Sl
namespace Go.Sl
theorem aG.star {P : Program} {f : FuncId} {args : List Value} {A : List ad} {K : Value → Prop} (h : aG P f args A (aQ fun v G => K v ∧ G = A)) : aG P f args [pV A] (aQ fun v G => K v ∧ G = [pV A]) := fun w0 F w hi => by
  refine (h w0 F w hi.Ds).mono ?_
  rintro e w' ⟨G, h1, v, rfl, hv, rfl⟩
  exact ⟨[pV _], h1.star, v, rfl, hv, rfl⟩
section
variable {C : Ctx} {Q : QT} {E : Env} {L M F : List ad} {ops : Array Oper} {rest : List Oper}
theorem Mp {c : Code} {A : List ad} (hr : fJ L A M) (k : Wp C c Q E (pV A :: M)) : Wp C c Q E L := fun a w ha hi => k a w ha (hi.perm hr.perm).star
theorem D1 {c : Code} {A : List ad} (hr : iq L (pV A) M) (k : Wp C c Q E (A ++ M)) : Wp C c Q E L := fun a w ha hi => k a w ha (hi.perm hr.perm).Ds
end
end Go.Sl
namespace Go.Sl
open Go.RowKit (Below)
theorem Lw {w : World} {A : ad} (h : A w (fun _ => none)) : Inv w [A] w := (Inv.start w).wS h
theorem aG.law {P : Program} {f : FuncId} {args : List Value} {Pre : List ad} {R : Value → List ad → Prop} {w : World} {v : Value} (h : aG P f args Pre (aQ R)) (hi : Inv w Pre w) (hv : ∀ v' G, R v' G → v' = v) :
    Calls P f args.toArray w fun e w' => e = .returned v ∧ Below w.heap.size w w' :=
  (h w [] w (by rw [List.append_nil]; exact hi)).mono fun e w' ⟨G, h1, v', h2, h3⟩ => ⟨by rw [h2, hv v' G h3], h1.below⟩
end Go.Sl
namespace Go.Sl
open Go.RowKit (Below)
inductive Td where
  | int (k : IntKind)
  | bool
  | flt (k : FloatKind)
  | str
  | sl (T : TypeId) (e : Td)
  | st (fs : Td)
  | unit
  | seq (a b : Td)
  | arr (n : Nat) (T : TypeId) (e : Td)
def Td.size : Td → Nat
  | .int _ => 1
  | .bool => 1
  | .flt _ => 1
  | .str => 1
  | .sl _ _ => 1
  | .st d => d.size
  | .unit => 0
  | .seq a b => a.size + b.size
  | .arr n _ e => n * e.size
structure Ph (α : Type) where
  p : Option Addr
  cap : Nat
  l : List α
@[reducible] def Td.Ty : Td → Type
  | .int _ => Int
  | .bool => Bool
  | .flt _ => Nat
  | .str => ByteArray
  | .sl _ e => Ph e.Ty
  | .st d => d.Ty
  | .unit => Unit
  | .seq a b => a.Ty × b.Ty
  | .arr n _ e => { l : List e.Ty // l.length = n }
def Td.w3 : (d : Td) → d.Ty
  | .int _ => (0 : Int)
  | .bool => false
  | .flt _ => (0 : Nat)
  | .str => ByteArray.empty
  | .sl _ _ => ⟨none, 0, []⟩
  | .st d => d.w3
  | .unit => ()
  | .seq a b => (a.w3, b.w3)
  | .arr n _ e => ⟨List.replicate n e.w3, by simp⟩
def Td.cells : (d : Td) → d.Ty → List Value
  | .int k, x => [.int k x]
  | .bool, x => [.bool x]
  | .flt k, x => [.float k x]
  | .str, x => [.string x]
  | .sl _ _, x => [.slice x.p x.l.length x.cap]
  | .st d, x => d.cells x
  | .unit, _ => []
  | .seq a b, x => a.cells x.1 ++ b.cells x.2
  | .arr _ _ e, x => x.1.flatMap e.cells
theorem Td.kv : ∀ (d : Td) (x : d.Ty), (d.cells x).length = d.size
  | .int _, _ => rfl
  | .bool, _ => rfl
  | .flt _, _ => rfl
  | .str, _ => rfl
  | .sl _ _, _ => rfl
  | .st d, x => Td.kv d x
  | .unit, _ => rfl
  | .seq a b, x => by simp [Td.cells, Td.size, Td.kv a, Td.kv b]
  | .arr n _ e, ⟨l, hl⟩ => by
    simp only [Td.cells, Td.size]
    subst hl
    induction l with
    | nil => simp
    | cons y l ih => simp only [List.flatMap_cons, List.length_append, List.length_cons, Td.kv e, ih, Nat.succ_mul]; omega
theorem Td.mq : ∀ (d : Td) (x : d.Ty), (d.cells x).all Value.oneCell' = true
  | .int _, _ => rfl
  | .bool, _ => rfl
  | .flt _, _ => rfl
  | .str, _ => rfl
  | .sl _ _, _ => rfl
  | .st d, x => Td.mq d x
  | .unit, _ => rfl
  | .seq a b, x => by simp only [Td.cells, List.all_append, Td.mq a, Td.mq b, Bool.and_self]
  | .arr n _ e, ⟨l, hl⟩ => by
    simp only [Td.cells, List.all_eq_true]
    intro v hv
    obtain ⟨y, _, hy⟩ := List.mem_flatMap.1 hv
    exact List.all_eq_true.1 (Td.mq e y) v hy
@[reducible] def Td.ec (T : TypeId) (d : Td) : Ec d.Ty := ⟨T, d.size, d.cells, d.w3, d.kv, d.mq⟩
def Td.Holds (w : World) : (d : Td) → d.Ty → Prop
  | .int k, x => k.min ≤ x ∧ x ≤ k.max
  | .bool, _ => True
  | .flt k, x => (Lit.float k x).wf = true
  | .str, x => x.size ≤ maxLen
  | .sl T e, x => (x.l.length ≤ x.cap ∧ x.cap ≤ 9223372036854775807) ∧ aS (Td.ec T e) x.p x.l.length x.l w (fun _ => none) ∧ ∀ y ∈ x.l, e.Holds w y
  | .st d, x => d.Holds w x
  | .unit, _ => True
  | .seq a b, x => a.Holds w x.1 ∧ b.Holds w x.2
  | .arr _ _ e, x => ∀ y ∈ x.1, e.Holds w y
def Td.fits (P : Program) : Td → (TypeId ⊕ (List Field × Nat)) → Bool
  | .int k, .inl t => match P.underlying t with | some (.int k') => decide (k' = k) | _ => false
  | .bool, .inl t => match P.underlying t with | some .bool => true | _ => false
  | .flt k, .inl t => match P.underlying t with | some (.float k') => decide (k' = k) | _ => false
  | .str, .inl t => match P.underlying t with | some .string => true | _ => false
  | .sl T e, .inl t => match P.underlying t with | some (.slice T') => Nat.beq T' T && e.fits P (.inl T) && Nat.beq (P.cellsOf T) e.size && Nat.ble 1 e.size | _ => false
  | .st d, .inl t => match P.underlying t with | some (.struct fs) => d.fits P (.inr (fs.toList, 0)) && Nat.beq (P.cellsOf t) d.size | _ => false
  | .arr n T e, .inl t => match P.underlying t with | some (.array n' T') => Nat.beq n' n && Nat.beq T' T && e.fits P (.inl T) && Nat.beq (P.cellsOf T) e.size && Nat.beq (P.cellsOf t) (n * e.size) | _ => false
  | .unit, .inr ([], _) => true
  | .seq a b, .inr (f :: fs, o) => Nat.beq f.offset o && a.fits P (.inl f.type) && Nat.beq (P.cellsOf f.type) a.size && b.fits P (.inr (fs, o + a.size))
  | _, _ => false
section
variable {H : Type} {enc : TypeId × Value → H} {P : Program} {w : World} {base : Nat} {spare : Nat → Bool} {held : Bool}
theorem xu {α β : Type} {f : α → Option β} : ∀ {l : List α} {xs : List β}, l.mapM f = some xs → xs.length = l.length ∧ ∀ (i : Nat) (a : α), l[i]? = some a → f a = xs[i]?
  | [], xs, h => by simp at h; subst h; simp
  | a :: l, xs, h => by
    simp only [List.mapM_cons] at h
    cases ha : f a with
    | none => simp [ha] at h
    | some b =>
      simp only [ha] at h
      cases hl : l.mapM f with
      | none => simp [hl] at h
      | some bs =>
        simp [hl] at h
        subst h
        obtain ⟨h1, h2⟩ := xu hl
        refine ⟨by simp [h1], fun i a' hi => ?_⟩
        cases i with
        | zero => simp at hi; subst hi; simpa using ha
        | succ i => simpa using h2 i a' (by simpa using hi)
theorem DC {a : Addr} {n : Nat} {cs : List Value} (h : w.cells? base a n = some cs) : cs.length = n ∧ ∀ i : Nat, i < n → w.cell? (a.add i) = cs[i]? := by
  unfold World.cells? at h
  split at h
  · obtain ⟨h1, h2⟩ := xu h
    simp at h1
    exact ⟨h1, fun i hi => h2 i i (by simp [hi])⟩
  · cases h
theorem nY {α : Type} {p : Nat → α → Prop} : ∀ (n : Nat), (∀ i, i < n → ∃ y, p i y) → ∃ l : List α, l.length = n ∧ ∀ (i : Nat) (y : α), l[i]? = some y → p i y
  | 0, _ => ⟨[], rfl, by simp⟩
  | n + 1, h => by
    obtain ⟨l, h1, h2⟩ := nY n (fun i hi => h i (by omega))
    obtain ⟨y, hy⟩ := h n (by omega)
    refine ⟨l ++ [y], by simp [h1], fun i z hz => ?_⟩
    by_cases hi : i < n
    · rw [List.getElem?_append_left (by omega)] at hz
      exact h2 i z hz
    · have := (List.getElem?_eq_some_iff.1 hz).1
      simp at this
      obtain rfl : i = n := by omega
      rw [List.getElem?_append_right (by omega)] at hz
      simp [h1] at hz
      subst hz
      exact hy
theorem yl {α : Type} {f : α → List Value} {sz : Nat} (hf : ∀ x, (f x).length = sz) : ∀ (l : List α) (cs : List Value), cs.length = l.length * sz → (∀ (i : Nat) (y : α), l[i]? = some y → (cs.drop (i * sz)).take sz = f y) → cs = l.flatMap f
  | [], cs, h, _ => by simp at h; simp [h]
  | y :: l, cs, h, k => by
    have h0 := k 0 y (by simp)
    simp at h0
    have := yl hf l (cs.drop sz) (by simp [h, Nat.succ_mul]) (fun i z hz => by
      have := k (i + 1) z (by simpa using hz)
      rw [List.drop_drop, ← this]
      congr 2
      rw [Nat.succ_mul]; omega)
    rw [List.flatMap_cons, ← this, ← h0, List.take_append_drop]
theorem Bf {fuel : Nat} {t : TypeId} {cs : List Value} {x : DataW H × List MemPlace} {k : FloatKind} (ht : P.underlying t = some (.float k)) (h : DataW.trod enc P w base spare held fuel t cs = some x) : ∃ n, cs = [.float k n] ∧ (Lit.float k n).wf = true := by
  cases fuel with
  | zero => simp [DataW.trod] at h
  | succ n =>
    unfold DataW.trod at h
    rw [ht] at h
    split at h <;> simp_all
theorem Addr.add_add (a : Addr) (m n : Nat) : (a.add m).add n = a.add (m + n) := by
  unfold Addr.add
  by_cases hm : m = 0
  · subst hm; simp
  · by_cases hn : n = 0
    · subst hn; simp [hm]
    · have : m + n ≠ 0 := by omega
      simp only [hm, hn, this, if_false]
      simp [Nat.add_assoc]
theorem Td.open_ : ∀ (d : Td), (∀ t, d.fits P (.inl t) = true → ∀ (fuel : Nat) (cs : List Value) (x : DataW H × List MemPlace), DataW.trod enc P w 0 spare held fuel t cs = some x → ∃ y, cs = d.cells y ∧ d.Holds w y) ∧
    (∀ fs o, d.fits P (.inr (fs, o)) = true → ∀ (fuel : Nat) (cs : List Value), cs.length = o + d.size → (∀ (i : Nat) (f : Field), fs[i]? = some f → ∃ x, DataW.trod enc P w 0 spare held fuel f.type ((cs.drop f.offset).take (P.cellsOf f.type)) = some x) → ∃ y, cs.drop o = d.cells y ∧ d.Holds w y)
  | .int k => ⟨fun t hf fuel cs x h => by
      simp only [Td.fits] at hf
      split at hf
      · rename_i k' hk
        simp at hf
        subst hf
        obtain ⟨n, rfl, _, h2⟩ := DataW.trod_int hk h
        exact ⟨n, rfl, by simpa [Lit.wf, Td.Holds] using h2⟩
      · exact absurd hf Bool.false_ne_true, fun fs o hf => by simp [Td.fits] at hf⟩
  | .bool => ⟨fun t hf fuel cs x h => by
      simp only [Td.fits] at hf
      split at hf
      · rename_i hk
        obtain ⟨n, rfl, _⟩ := DataW.trod_bool hk h
        exact ⟨n, rfl, trivial⟩
      · exact absurd hf Bool.false_ne_true, fun fs o hf => by simp [Td.fits] at hf⟩
  | .flt k => ⟨fun t hf fuel cs x h => by
      simp only [Td.fits] at hf
      split at hf
      · rename_i k' hk
        simp at hf
        subst hf
        obtain ⟨b, rfl, h2⟩ := Bf hk h
        exact ⟨b, rfl, h2⟩
      · exact absurd hf Bool.false_ne_true, fun fs o hf => by simp [Td.fits] at hf⟩
  | .str => ⟨fun t hf fuel cs x h => by
      simp only [Td.fits] at hf
      split at hf
      · rename_i hk
        obtain ⟨b, rfl, _, h2⟩ := DataW.trod_string hk h
        exact ⟨b, rfl, h2⟩
      · exact absurd hf Bool.false_ne_true, fun fs o hf => by simp [Td.fits] at hf⟩
  | .sl T e => ⟨fun t hf fuel cs x h => by
      simp only [Td.fits] at hf
      split at hf
      · rename_i T' hk
        simp only [Bool.and_eq_true] at hf
        obtain ⟨⟨⟨h1, h2⟩, h3⟩, h4⟩ := hf
        obtain rfl := Nat.eq_of_beq_eq_true h1
        have h3 := Nat.eq_of_beq_eq_true h3
        have h4 := Nat.le_of_ble_eq_true h4
        rcases DataW.trod_slice hk h with ⟨rfl, _⟩ | ⟨a, len, cap, elems, rest, n, _, rfl, _, _, hlc, hcm, hel, hgo, _⟩
        · exact ⟨⟨none, 0, []⟩, rfl, ⟨Nat.zero_le _, Nat.zero_le _⟩, ⟨rfl, by simp, .inl rfl⟩, by simp⟩
        · have key : ∀ i, i < len → ∃ y : e.Ty, e.Holds w y ∧ ∀ j, j < e.size → w.cell? (a.add (i * e.size + j)) = (e.cells y)[j]? := by
            intro i hi
            have h5 := hgo i hi
            have h6 : elems[i]? = some elems[i] := List.getElem?_eq_getElem (by omega)
            rw [h6, Option.bind_eq_some_iff] at h5
            obtain ⟨cs', h7, h8⟩ := h5
            obtain ⟨y, rfl, hy⟩ := (Td.open_ e).1 T' h2 n cs' _ h8
            obtain ⟨_, h9⟩ := DC h7
            refine ⟨y, hy, fun j hj => ?_⟩
            rw [← h9 j (by omega), Addr.add_add, h3]
          obtain ⟨l, hl, hp⟩ := nY len key
          subst hl
          refine ⟨⟨some a, cap, l⟩, rfl, by unfold maxLen at hcm; show l.length ≤ cap ∧ cap ≤ _; omega, ⟨rfl, by rw [gx (Td.ec T' e)], ?_⟩, fun y hy => by obtain ⟨i, hi⟩ := List.getElem?_of_mem hy; exact (hp i y hi).1⟩
          show l.length = 0 ∨ _
          by_cases h0 : l.length = 0
          · exact .inl h0
          right
          obtain ⟨b, o, s⟩ := a
          have hfst := (hp 0 l[0] (List.getElem?_eq_getElem (by omega))).2 0 (by omega)
          have hs : s = none := by
            cases s with
            | none => rfl
            | some q =>
              exfalso
              have hlt : 0 < (e.cells l[0]).length := by rw [Td.kv]; omega
              rw [List.getElem?_eq_getElem hlt] at hfst
              simp [Addr.add, World.cell?] at hfst
              split at hfst <;> simp at hfst
          subst hs
          refine ⟨b, o, rfl, fun i v hv => ?_⟩
          have hi := (List.getElem?_eq_some_iff.1 hv).1
          rw [gx (Td.ec T' e)] at hi
          have hi : i < l.length * e.size := hi
          have hdiv : i / e.size < l.length := Nat.div_lt_of_lt_mul (by rw [Nat.mul_comm]; exact hi)
          have hmod : i % e.size < e.size := Nat.mod_lt _ (by omega)
          have hsplit : i = i / e.size * e.size + i % e.size := by rw [Nat.mul_comm]; exact (Nat.div_add_mod _ _).symm
          have hg := ph (Td.ec T' e) l (i / e.size) (i % e.size) hdiv hmod
          have hg : (l.flatMap e.cells)[i / e.size * e.size + i % e.size]? = (e.cells l[i / e.size])[i % e.size]? := hg
          rw [← hsplit] at hg
          have hv : (l.flatMap e.cells)[i]? = some v := hv
          rw [hg] at hv
          have hc := (hp (i / e.size) l[i / e.size] (List.getElem?_eq_getElem hdiv)).2 (i % e.size) hmod
          rw [hv, ← hsplit, Addr.fX] at hc
          simp only [pq]
          rw [if_pos (World.block_lt_of_cell? _ _ hc), hc]
      · exact absurd hf Bool.false_ne_true, fun fs o hf => by simp [Td.fits] at hf⟩
  | .st d => ⟨fun t hf fuel cs x h => by
      simp only [Td.fits] at hf
      split at hf
      · rename_i fs hk
        simp only [Bool.and_eq_true] at hf
        obtain ⟨h1, h2⟩ := hf
        have h2 := Nat.eq_of_beq_eq_true h2
        obtain ⟨xs, n, _, _, h3, h4, h5⟩ := DataW.trod_struct hk h
        obtain ⟨y, e1, e2⟩ := (Td.open_ d).2 fs.toList 0 h1 n cs (by omega) (fun i f hi => by
          have hi' : fs[i]? = some f := by simpa using hi
          have := h5 i f hi'
          have hlt := (Array.getElem?_eq_some_iff.1 hi').1
          exact ⟨_, by rw [this]; exact List.getElem?_eq_getElem (by omega)⟩)
        exact ⟨y, by rw [List.drop_zero] at e1; exact e1, e2⟩
      · exact absurd hf Bool.false_ne_true, fun fs o hf => by simp [Td.fits] at hf⟩
  | .unit => ⟨fun t hf => by simp [Td.fits] at hf, fun fs o hf fuel cs hl h => ⟨(), by simp [Td.cells, Td.size] at hl ⊢; omega, trivial⟩⟩
  | .seq a b => ⟨fun t hf => by simp [Td.fits] at hf, fun fs o hf fuel cs hl h => by
      cases fs with
      | nil => simp [Td.fits] at hf
      | cons f fs =>
        simp only [Td.fits, Bool.and_eq_true] at hf
        obtain ⟨⟨⟨h1, h2⟩, h3⟩, h4⟩ := hf
        have h1 := Nat.eq_of_beq_eq_true h1
        have h3 := Nat.eq_of_beq_eq_true h3
        obtain ⟨x, hx⟩ := h 0 f rfl
        rw [h1, h3] at hx
        obtain ⟨y, e1, e2⟩ := (Td.open_ a).1 _ h2 fuel _ x hx
        simp only [Td.size] at hl
        obtain ⟨z, e3, e4⟩ := (Td.open_ b).2 fs (o + a.size) h4 fuel cs (by omega) (fun i g hi => h (i + 1) g (by simpa using hi))
        refine ⟨(y, z), ?_, e2, e4⟩
        simp only [Td.cells]
        rw [← e1, ← e3, ← List.drop_drop, List.take_append_drop]⟩
  | .arr n T e => ⟨fun t hf fuel cs x h => by
      simp only [Td.fits] at hf
      split at hf
      · rename_i n' T' hk
        simp only [Bool.and_eq_true] at hf
        obtain ⟨⟨⟨⟨h1, h2⟩, h3⟩, h4⟩, h5⟩ := hf
        obtain rfl := Nat.eq_of_beq_eq_true h1
        obtain rfl := Nat.eq_of_beq_eq_true h2
        have h4 := Nat.eq_of_beq_eq_true h4
        have h5 := Nat.eq_of_beq_eq_true h5
        obtain ⟨xs, m, _, _, h6, h7, h8⟩ := DataW.trod_array hk h
        obtain ⟨l, hl, hp⟩ := nY (p := fun i (y : e.Ty) => (cs.drop (i * e.size)).take e.size = e.cells y ∧ e.Holds w y) n' (fun i hi => by
          have h9 := h8 i hi
          rw [List.getElem?_eq_getElem (by omega), h4] at h9
          obtain ⟨y, e1, e2⟩ := (Td.open_ e).1 T' h3 m _ _ h9
          exact ⟨y, e1, e2⟩)
        refine ⟨⟨l, hl⟩, yl (Td.kv e) l cs (by rw [hl]; omega) (fun i y hy => (hp i y hy).1), fun y hy => by obtain ⟨i, hi⟩ := List.getElem?_of_mem hy; exact (hp i y hi).2⟩
      · exact absurd hf Bool.false_ne_true, fun fs o hf => by simp [Td.fits] at hf⟩
theorem Td.arg (d : Td) {t : TypeId} {v : Value} {r : DataW H} {p : List MemPlace} (hf : d.fits P (.inl t) = true) (h : ∃ fuel, DataW.trod enc P w 0 spare held fuel t v.cells.toList = some (r, p)) : ∃ y, v.cells.toList = d.cells y ∧ d.Holds w y := by
  obtain ⟨fuel, h⟩ := h
  exact (Td.open_ d).1 t hf fuel _ _ h
end
theorem qO {cs : Array Value} {l : List Value} (h : (Value.agg cs).cells.toList = l) : Value.agg cs = .agg l.toArray := by
  subst h; simp [Value.cells]
def Td.val : (d : Td) → d.Ty → Value
  | .int k, x => .int k x
  | .bool, x => .bool x
  | .flt k, x => .float k x
  | .str, x => .string x
  | .sl _ _, x => .slice x.p x.l.length x.cap
  | .st d, x => .agg (d.cells x).toArray
  | .unit, _ => .agg #[]
  | .seq a b, x => .agg (Td.cells (.seq a b) x).toArray
  | .arr n T e, x => .agg (Td.cells (.arr n T e) x).toArray
section
variable {H : Type} {enc : TypeId × Value → H} {P : Program} {w : World} {spare : Nat → Bool} {held : Bool}
open Go.WideShapes
theorem Td.K9 (d : Td) {t : TypeId} {v : Value} {r : DataW H} {p : List MemPlace} {rr : Reach} {b : Nat} (hf : d.fits P (.inl t) = true) (ho : Value.okWide P w rr b t v) (h : ∃ fuel, DataW.trod enc P w 0 spare held fuel t v.cells.toList = some (r, p)) : ∃ y, v = d.val y ∧ d.Holds w y := by
  obtain ⟨y, e, hy⟩ := Td.arg d hf h
  refine ⟨y, ?_, hy⟩
  cases d with
  | int k =>
    simp only [Td.fits] at hf
    split at hf
    · rename_i k' hk
      obtain ⟨n, rfl⟩ := okWide_int hk ho
      simpa [Value.cells, Td.cells, Td.val] using e
    · cases hf
  | bool =>
    simp only [Td.fits] at hf
    split at hf
    · rename_i hk
      obtain ⟨n, rfl⟩ := okWide_bool hk ho
      simpa [Value.cells, Td.cells, Td.val] using e
    · cases hf
  | flt k =>
    simp only [Td.fits] at hf
    split at hf
    · rename_i k' hk
      simp only [Value.okWide, hk, Cell.okWide] at ho
      cases v <;> simp_all [Cell.ok, Value.cells, Td.cells, Td.val]
    · cases hf
  | str =>
    simp only [Td.fits] at hf
    split at hf
    · rename_i hk
      obtain ⟨n, rfl⟩ := okWide_string hk ho
      simpa [Value.cells, Td.cells, Td.val] using e
    · cases hf
  | sl T e' =>
    simp only [Td.fits] at hf
    split at hf
    · rename_i k' hk
      obtain ⟨a, len, cap, rfl⟩ := okWide_slice hk ho
      simpa [Value.cells, Td.cells, Td.val] using e
    · cases hf
  | st d =>
    simp only [Td.fits] at hf
    split at hf
    · rename_i fs hk
      obtain ⟨cs, rfl, _⟩ := okWide_struct hk ho
      exact qO e
    · cases hf
  | unit => simp [Td.fits] at hf
  | seq a b => simp [Td.fits] at hf
  | arr n T e' =>
    simp only [Td.fits] at hf
    split at hf
    · rename_i n' T' hk
      simp only [Value.okWide, hk] at ho
      obtain ⟨cs, rfl, _⟩ := ho
      exact qO e
    · cases hf
end
end Go.Sl
namespace Go.Sl
def Deep (T : TypeId) (e : Td) (p : Option Addr) (n : Nat) (l : List e.Ty) : ad := fun w0 h => aS (Td.ec T e) p n l w0 h ∧ ∀ y ∈ l, e.Holds w0 y
section
variable {C : Ctx} {Q : QT} {E : Env} {L : List ad} {ops : Array Oper} {rest : List Oper}
end
theorem AY {w : World} {T : TypeId} {k : IntKind} {x : Ph Int} (hx : (Td.sl T (.int k)).Holds w x) : aS (aP T k) x.p x.l.length x.l w (fun _ => none) := hx.2.1
end Go.Sl
namespace Go.Sl
open Go.RowKit (Below)
def rG (R : List PanicEntry → List ad → Prop) : Ending → List ad → Prop := fun e G => ∃ ch, e = .panicked ch ∧ R ch G
def sS (R : Value → List ad → Prop) (S : List PanicEntry → List ad → Prop) : Ending → List ad → Prop := fun e G => (∃ v, e = .returned v ∧ R v G) ∨ (∃ ch, e = .panicked ch ∧ S ch G)
abbrev ku (t : TypeId) (v : Value) : List PanicEntry := [{ v := .iface t v, recovered := false }]
section
variable {C : Ctx} {Q : QT} {E : Env} {L L' F : List ad} {ops : Array Oper} {rest : List Oper} {d : Nat} {ty : TypeId} {pos : String} {aft : Array Edge} {op : Op} {v : Value}
theorem wR {rs : Array ResultVar} {F G : List ad} {R : List PanicEntry → List ad → Prop} {ch : List PanicEntry} (hR : R ch G) (hs : Sub L (G ++ F)) : oH C rs F (rG R) (.panic ch) E L := ⟨G, ⟨ch, rfl, hR⟩, hs⟩
theorem BD {rs : Array ResultVar} {F G : List ad} {R : Value → List ad → Prop} {S : List PanicEntry → List ad → Prop} {ch : List PanicEntry} (hR : S ch G) (hs : Sub L (G ++ F)) : oH C rs F (sS R S) (.panic ch) E L := ⟨G, .inr ⟨ch, rfl, hR⟩, hs⟩
theorem Jv {rs : Array ResultVar} {F G : List ad} {R : Value → List ad → Prop} {S : List PanicEntry → List ad → Prop} (hr : lu C rs E L v) (hR : R v G) (hs : Sub L (G ++ F)) : oH C rs F (sS R S) .ret E L := ⟨v, G, hr, .inl ⟨v, rfl, hR⟩, hs⟩
theorem dK {dst : Option Nat} {f : FuncId} {args : List Operand} {tys : Array TypeId} {vs : List Value} {Pre : List ad} {R : List PanicEntry → List ad → Prop} (hS : aG C.P f vs Pre (rG R)) (hb : aH C.P f = true) (hE : iL E args = some vs) (hL : fJ L Pre F)
    (k : ∀ ch G, R ch G → Q (.panic ch) E (G ++ F)) : dM C ops (⟨dst, .call ⟨.value (.func f), args.toArray, tys⟩, ty, pos, aft, none⟩ :: rest) Q E L := by
  intro a w ha hi
  refine wpList_plain rfl (fun K hK => ?_)
  have hargs := ha.iL hE
  have hr : (execOp a.eval ⟨dst, .call ⟨.value (.func f), args.toArray, tys⟩, ty, pos, aft, none⟩).run C.P w = .ok (.enter f vs.toArray) w := by
    simp only [execOp, resolve, hargs, Deferred.ofValue, Act.eval, invoke, Sem.run_bind, Sem.run_pure, Result.andThen_ok, Array.append_empty, Array.empty_append, gS hb]
  unfold Oper.wp
  rw [hr]
  refine (hS C.w0 F w (hi.perm hL.perm)).mono ?_
  rintro e w' ⟨G, h1, ch, rfl, h2⟩
  exact ⟨E, _, ha, h1, k ch G h2⟩
theorem Fg {dst : Option Nat} {f : FuncId} {t : Nat} {args : List Operand} {tys : Array TypeId} {vs fs cs : List Value} {Pre : List ad} {R : List PanicEntry → List ad → Prop} (hS : aG C.P f (fs ++ vs ++ cs) Pre (rG R)) (hb : aH C.P f = true) (ht : E.get t = some (.func (.func f) fs.toArray cs.toArray)) (hE : iL E args = some vs) (hL : fJ L Pre F)
    (k : ∀ ch G, R ch G → Q (.panic ch) E (G ++ F)) : dM C ops (⟨dst, .call ⟨.value (.tmp t), args.toArray, tys⟩, ty, pos, aft, none⟩ :: rest) Q E L := by
  intro a w ha hi
  refine wpList_plain rfl (fun K hK => ?_)
  have hargs := ha.iL hE
  have hev := ha.eval (x := .tmp t) ht
  have hr : (execOp a.eval ⟨dst, .call ⟨.value (.tmp t), args.toArray, tys⟩, ty, pos, aft, none⟩).run C.P w = .ok (.enter f (fs ++ vs ++ cs).toArray) w := by
    simp only [execOp, resolve, hargs, hev, Deferred.ofValue, invoke, Sem.run_bind, Sem.run_pure, Result.andThen_ok, gS hb]
    simp
  unfold Oper.wp
  rw [hr]
  refine (hS C.w0 F w (hi.perm hL.perm)).mono ?_
  rintro e w' ⟨G, h1, ch, rfl, h2⟩
  exact ⟨E, _, ha, h1, k ch G h2⟩
theorem uT {dst : Option Nat} {x : Operand} {t : TypeId} {u : Value} (hx : aq E x = some (.iface t u)) (k : Q (.panic (ku t u)) E L) : dM C ops (⟨dst, .panic x, ty, pos, aft, none⟩ :: rest) Q E L := by
  intro a w ha hi
  refine wpList_plain rfl (fun K hK => ?_)
  have hr : (execOp a.eval ⟨dst, .panic x, ty, pos, aft, none⟩).run C.P w = .halt (.panic (.iface t u)) w := by
    simp [execOp, ha.eval hx, Instr.panic, goPanic]
  unfold Oper.wp
  rw [hr]
  exact ⟨E, _, ha, hi, k⟩
def mN (P : Program) (t : TypeId) : Bool := match P.underlying t with | some (.interface _) => false | some _ => true | none => false
theorem uF {x : Operand} {t : TypeId} (ht : mN C.P t = true) (hx : aq E x = some v) : cF C (.makeInterface t x) ty E L (.iface t v) L := dS fun d pos aft g a w ha => by
  unfold mN at ht
  split at ht <;> try simp at ht
  rename_i ds hne hds
  simp only [execOp, ha.eval hx, Instr.makeInterface, Sem.run_bind, run_underlying hds, Result.andThen_ok]
  cases ds <;> first | (exact absurd rfl (hne _)) | simp [Sem.run_pure]
theorem xq {t e : TypeId} {p : Option Addr} {n c : Nat} (ht : C.P.underlying t = some (.slice e)) (d : Nat) (w : World) : (Op.equalIn (d + 1) t (.slice p n c) (.slice none 0 0)).run C.P w = .ok p.isNone w := by
  cases p <;> simp [Op.equalIn, run_underlying ht]
theorem FH {x y : Operand} {t t' e : TypeId} {p : Option Addr} {n c : Nat} (ht : C.P.underlying t = some (.slice e)) (hx : aq E x = some (.slice p n c)) (hy : aq E y = some (.slice none 0 0)) : cF C (.binOp .eql t x y t') ty E L (.bool p.isNone) L :=
  dS fun d pos aft g a w ha => by
    rw [jx d pos aft g (ha.eval hx) (ha.eval hy) (by simp [eqGuard])]
    have h := xq ht (p := p) (n := n) (c := c) 9999 w
    simp only [binOp, Op.equal, Op.maxDepth, Sem.run_bind, h, Result.andThen_ok, Sem.run_pure]
def Sf (P : Program) (t : TypeId) : Bool := match P.underlying t with | some (.func _ _ _) => true | _ => false
end
theorem ej {A : ad} {L : List ad} (hA : ∀ w0, A w0 (fun _ => none)) : Sub L (A :: L) := fun w0 w hi => hi.wS (hA w0)
abbrev QR := Exit → Act → World → Prop
def zD (C : Ctx) (c : Code) (Q : QR) (E : Env) (L : List ad) : Prop := ∀ a w, gl C E a → Inv C.w0 L w → c.wp C.P Q a w
def qr (C : Ctx) (Q : QR) : QT := fun e E L => ∀ a w, gl C E a → Inv C.w0 L w → Q e a w
section
variable {C : Ctx} {Q : QR} {E : Env} {L : List ad}
theorem Hj {c : Code} (h : Wp C c (qr C Q) E L) : zD C c Q E L := fun a w ha hi =>
  Code.wp_mono (fun e a w ⟨E, L, ha, hi, q⟩ => q a w ha hi) (h a w ha hi)
theorem qm {x y : Code} (h : Wp C x (iI (fun E L => zD C y Q E L) (qr C Q)) E L) : zD C (.seq x y) Q E L := fun a w ha hi =>
  Go.wp_seq (Code.wp_mono (fun e a w ⟨E, L, ha, hi, q⟩ => by
    cases e with
    | normal => exact q a w ha hi
    | exit _ => exact q a w ha hi
    | goto _ => exact q a w ha hi
    | ret => exact q a w ha hi
    | panic _ => exact q a w ha hi
    | outgrown => exact q a w ha hi) (h a w ha hi))
theorem xr {y : Code} {id d : Nat} {fn : FuncId} {caps : List Operand} {cs : List Value} {ty1 ty2 : TypeId} {pos1 pos2 : String} {aft1 aft2 : Array Edge} {tys : Array TypeId} (hc : iL E caps = some cs) (hd : Nat.blt d C.n = true)
    (h : zD { C with D := { target := .fn (.func fn) cs.toArray, args := #[] } :: C.D } y Q ((d, .func (.func fn) #[] cs.toArray) :: E) L) :
    zD C (.seq (.region id [⟨some d, .makeFunc (.func fn) #[] caps.toArray, ty1, pos1, aft1, none⟩, ⟨none, .defer ⟨.value (.tmp d), #[], tys⟩, ty2, pos2, aft2, none⟩].toArray false) y) Q E L := fun a w ha hi => by
  refine Go.wp_seq (wp_region_lit ?_)
  refine wpList_plain rfl (fun K hK => ?_)
  have h1 : (execOp a.eval ⟨some d, .makeFunc (.func fn) #[] caps.toArray, ty1, pos1, aft1, none⟩).run C.P w = .ok (.value (.func (.func fn) #[] cs.toArray)) w := by
    simp only [execOp, Instr.makeFunc, ha.iL hc, Sem.run_bind, Sem.run_pure, Result.andThen_ok, Array.map_empty]
  unfold Oper.wp
  rw [h1]
  refine hK _ _ ?_
  have ha2 := ha.put (fU hd) (.func (.func fn) #[] cs.toArray)
  refine wpList_plain rfl (fun K hK => ?_)
  have hev := ha2.eval (x := .tmp d) (v := .func (.func fn) #[] cs.toArray) (by simp [aq, Env.jl])
  have h2 : (execOp (a.put (some d) (.func (.func fn) #[] cs.toArray)).eval ⟨none, .defer ⟨.value (.tmp d), #[], tys⟩, ty2, pos2, aft2, none⟩).run C.P w = .ok (.defer { target := .fn (.func fn) cs.toArray, args := #[] }) w := by
    simp [execOp, resolve, hev, Deferred.ofValue]
  unfold Oper.wp
  rw [h2]
  refine hK _ _ (wpList_nil ?_)
  have ha3 : gl { C with D := { target := .fn (.func fn) cs.toArray, args := #[] } :: C.D } ((d, .func (.func fn) #[] cs.toArray) :: E) { a.put (some d) (.func (.func fn) #[] cs.toArray) with defers := { target := .fn (.func fn) cs.toArray, args := #[] } :: (a.put (some d) (.func (.func fn) #[] cs.toArray)).defers } :=
    ⟨by simp [ha2.defers], ha2.size, ha2.get⟩
  exact h _ _ ha3 hi
end
theorem xY {P : Program} {f : FuncId} {fn : Func} {c : Code} {args : List Value} {Pre : List ad} {Post : Ending → List ad → Prop} {n : Nat} (E : Env) (hf : P.funcs[f]? = some fn) (hb : fn.body = some c) (hn : fn.ntmps = n) (hE : wF 0 args = E) (hl : Nat.ble args.length n = true)
    (h : ∀ w0 F, zD ⟨P, w0, n, [], fun _ _ => False⟩ c (bodyPostD P fn fun e w' => ∃ G, Inv w0 (G ++ F) w' ∧ Post e G) E (Pre ++ F)) : aG P f args Pre Post := by
  intro w0 F w hi
  have hl := Nat.le_of_ble_eq_true hl
  refine calls_of_wp_defers hf hb (h w0 F _ w ?_ hi)
  refine ⟨rfl, ?_, ?_⟩
  · simp [hn]; omega
  · intro d v hd
    rw [← hE] at hd
    obtain ⟨_, h2⟩ := si 0 args d v hd
    have hlt := (List.getElem?_eq_some_iff.1 h2).1
    simp at h2 hlt ⊢
    rw [Array.getElem?_append_left (by simpa using hlt)]
    simpa using h2
theorem Ic {x : Int} (h : IntKind.u8.min ≤ x ∧ x ≤ IntKind.u8.max) : 0 ≤ x ∧ x < 256 := by
  have h1 : IntKind.u8.min = 0 := by decide
  have h2 : IntKind.u8.max = 255 := by decide
  omega
theorem Ky {α : Type} {c : Ec α} {w0 w : World} {L : List ad} {R : ad} {p : Option Addr} {n : Nat} {l : List α} (hm : R ∈ L) (hR : ∀ w0 h, R w0 h → aS c p n l w0 h) (hi : Inv w0 L w) : p = none → l = [] := by
  intro e
  obtain ⟨F, hb, h, a, h1, h2, d, l1, l2, hp, _⟩ := hi.mem hm
  obtain ⟨e1, e2, e3⟩ := hR _ _ hp
  rcases e3 with h0 | ⟨b, o, h1, _⟩
  · exact List.length_eq_zero_iff.1 (by omega)
  · rw [e] at h1; cases h1
section
variable {C : Ctx} {Q : QT} {E E0 : Env} {L F : List ad} {ops : Array Oper} {ty : TypeId} {pos : String} {aft : Array Edge}
theorem fZ {dst : Option Nat} {f : FuncId} {args : List Operand} {tys : Array TypeId} {vs : List Value} {Pre : List ad} {S : List PanicEntry → List ad → Prop} {R : Value → List ad → Prop} (hS : aG C.P f vs Pre (rG S)) (hb : aH C.P f = true) (hE : iL E args = some vs) (hL : fJ L Pre F) (hP : ∀ ch G, S ch G → C.X ch (G ++ F)) :
    Step C ops ⟨dst, .call ⟨.value (.func f), args.toArray, tys⟩, ty, pos, aft, none⟩ E L R := by
  intro a w K Qx ha hi hK
  rw [if_pos (by simp [Region.wanted])]
  have hargs := ha.iL hE
  have hr : (execOp a.eval ⟨dst, .call ⟨.value (.func f), args.toArray, tys⟩, ty, pos, aft, none⟩).run C.P w = .ok (.enter f vs.toArray) w := by
    simp only [execOp, resolve, hargs, Deferred.ofValue, Act.eval, invoke, Sem.run_bind, Sem.run_pure, Result.andThen_ok, Array.append_empty, Array.empty_append, gS hb]
  unfold Oper.wp
  rw [hr]
  refine (hS C.w0 F w (hi.perm hL.perm)).mono ?_
  rintro e w' ⟨G, h1, ch, rfl, h2⟩
  exact Qx.2 ch E _ a w' ha h1 (hP ch G h2)
variable {l : List Oper} {ts : List ef} {i : Nat} {c : ib} {o : Oper} {os : List Oper} {ps : List eR} {K : ib → Prop} {A0 : List ad}
theorem bM {p : eR} (v0 : Value) (R : Yv → List ad) (E : Yv → Env) (hE : ∀ y, kX l E0 p i c y = E y) (hc : iH ts i = []) (hr : ∀ y, fb (fu ts i) y = R y)
    (h : ∀ y M, (∀ j ∈ p.gB, dO c i j y) → Step C l.toArray o (E y) (R y ++ (M ++ A0)) (fun _ _ => False))
    (r : iz C l E0 ts A0 (i + 1) (c.put (fun _ => v0) (fun _ => False)) os ps K) : iz C l E0 ts A0 i c (o :: os) (p :: ps) K :=
  ⟨(fun _ => v0), (fun _ => False), fun _ _ _ => rfl, fun _ _ _ => rfl, fun y M h3 a w K' Q ha hi hK => by
    rw [hE] at ha
    rw [hc, hr] at hi
    exact h y M h3 a w K' Q ha hi (fun _ _ _ h => h.elim), r⟩
end
end Go.Sl
namespace Go.Sl
def R9 (P : Program) (t : TypeId) (name : String) : Option FuncId := match (P.info? t).bind fun i => i.methods.find? (·.name == name) with
  | some m => if m.path.isEmpty then (match m.func, P.underlying t with
    | some (_, false), some (.pointer _) => none
    | some (f, false), some _ => some f
    | some (f, true), some (.pointer _) => some f
    | _, _ => none) else none
  | none => none
section
variable {C : Ctx} {Q : QT} {E : Env} {L L' F : List ad} {ops : Array Oper} {rest : List Oper} {d : Nat} {ty : TypeId} {pos : String} {aft : Array Edge} {op : Op} {v : Value}
theorem tq {x : Operand} {t : TypeId} {s : ByteArray} {n : Nat} (ht : C.P.underlying t = some .string) (h : aq E x = some (.string s)) (hn : s.size = n) : cF C (.call ⟨.builtin .len, [x].toArray, #[t]⟩) ty E L (.int .i64 n) L :=
  dS fun d pos aft g a w ha => by subst hn; simp [execOp, resolve, invoke, builtin, Builtin.len_, ha.eval h, run_underlying ht, goInt]
theorem yW (l : List Int) : l.flatMap (fun x => [Value.int .u8 x]) = l.map (Value.int .u8) := by
  induction l with
  | nil => rfl
  | cons a l ih => simp [List.flatMap_cons, ih]
theorem e9 {t u T n b T' : Nat} {cs : List Value} {v2 : Value} (hs : ia C.P T = some n) (h1 : E.get t = some (.pointer (some ⟨b, 0, none⟩))) (hm : ao b T' cs ∈ L) (hn : cs.length = n) (h2 : E.get u = some v2) : lu C #[.cell t T, .tmp u] E L (.tuple #[.agg cs.toArray, v2]) := fun fn a w hr ha hi => by
  obtain ⟨g1, g2⟩ := lY hs w
  obtain ⟨F, hF⟩ := hi.mem hm
  have := run_loadCells_list (P := C.P) w ⟨b, 0, none⟩ cs (fun j v hj => by rw [Addr.fX, hF.ji, ← hj]; simp)
  rw [hn] at this
  simp [results, hr, ha.get _ _ h1, ha.get _ _ h2, asAddr, loadVar, g1, g2, this]
def SH (b : Nat) (o : Obj) : ad := fun _ h => h b = some o
end
end Go.Sl
namespace Go.Sl
inductive Fr where
  | sq (c : Code)
  | bk (id : Nat)
  | lp (J : Env → List ad → Prop)
def KF (C : Ctx) (Q : QT) : List Fr → QT
  | [] => Q
  | .sq c :: fr => iI (fun E L => Wp C c (KF C Q fr) E L) (KF C Q fr)
  | .bk i :: fr => lL i (KF C Q fr)
  | .lp J :: fr => iI J (KF C Q fr)
inductive Pos where
  | code (c : Code)
  | ops (all : Array Oper) (l : List Oper)
  | norm
  | exit (i : Nat)
  | ret
structure St where
  fr : List Fr
  E : Env
  pos : Pos
@[reducible] def den (C : Ctx) (Q : QT) (L : List ad) : St → Prop
  | ⟨fr, E, .code c⟩ => Wp C c (KF C Q fr) E L
  | ⟨fr, E, .ops all l⟩ => dM C all l (KF C Q fr) E L
  | ⟨fr, E, .norm⟩ => KF C Q fr .normal E L
  | ⟨fr, E, .exit i⟩ => KF C Q fr (.exit i) E L
  | ⟨fr, E, .ret⟩ => KF C Q fr .ret E L
structure mJ where
  sl : List Nat
  fd : List (Nat × Nat × Nat)
def Kg (P : Program) (t : Nat) : Bool := match P.underlying t with | some (.slice _) => true | _ => false
def dU (P : Program) (T : mJ) : Bool := T.sl.all (Kg P) && T.fd.all fun x => match cy P x.1 x.2.1 with | some o => Nat.beq o x.2.2 | none => false
def AQ (t : Nat) : List Nat → Bool
  | [] => false
  | a :: l => cond (Nat.beq a t) true (AQ t l)
def findF (s f : Nat) : List (Nat × Nat × Nat) → Option Nat
  | [] => none
  | x :: l => cond (Nat.beq x.1 s && Nat.beq x.2.1 f) (some x.2.2) (findF s f l)
theorem vl {t : Nat} : ∀ {l : List Nat}, AQ t l = true → t ∈ l
  | [], h => by cases h
  | a :: l, h => by
    unfold AQ at h
    cases hb : Nat.beq a t with
    | true => rw [Nat.eq_of_beq_eq_true hb]; exact .head _
    | false => rw [hb] at h; exact .tail _ (vl h)
theorem sQ {s f o : Nat} : ∀ {l : List (Nat × Nat × Nat)}, findF s f l = some o → (s, f, o) ∈ l
  | [], h => by cases h
  | x :: l, h => by
    unfold findF at h
    cases hb : (Nat.beq x.1 s && Nat.beq x.2.1 f) with
    | true =>
      rw [hb] at h
      cases h
      simp only [Bool.and_eq_true] at hb
      rw [← Nat.eq_of_beq_eq_true hb.1, ← Nat.eq_of_beq_eq_true hb.2]
      exact .head _
    | false => rw [hb] at h; exact .tail _ (sQ h)
def SR (n : Int) : Prop := -9223372036854775808 ≤ n ∧ n ≤ 9223372036854775807
def evalOp (T : mJ) (E : Env) : Op → Option (Option Prop × Value)
  | .move x => (match aq E x with | some v => some (none, v) | none => none)
  | .assign x => (match aq E x with | some v => some (none, v) | none => none)
  | .pick c x y => (match aq E c with
    | some (.bool true) => (match aq E x with | some v => some (none, v) | none => none)
    | some (.bool false) => (match aq E y with | some v => some (none, v) | none => none)
    | _ => none)
  | .nilCheck x => (match aq E x with | some (.pointer (some p)) => some (none, .pointer (some p)) | _ => none)
  | .extract x i => (match aq E x with | some (.tuple vs) => (match vs[i]? with | some v => some (none, v) | none => none) | _ => none)
  | .unOp .not _ x => (match aq E x with | some (.bool true) => some (none, .bool false) | some (.bool false) => some (none, .bool true) | _ => none)
  | .fieldAddr s x f => (match aq E x with | some (.pointer (some ⟨b, p, none⟩)) => (match findF s f T.fd with | some o => some (none, .pointer (some ⟨b, p + o, none⟩)) | none => none) | _ => none)
  | .call ⟨.builtin bi, ⟨[x]⟩, ⟨[t]⟩⟩ => (match aq E x with
    | some (.slice _ n c) => (match AQ t T.sl with
      | true => (match bi with
        | .len => some (none, .int .i64 n)
        | .cap => some (none, .int .i64 c)
        | _ => none)
      | false => none)
    | _ => none)
  | .binOp o _ x y _ => (match aq E x, aq E y with
    | some (.int k m), some (.int k' n) => (match decEq k k' with
      | .isTrue _ => (match o with
        | .lss => some (none, .bool (decide (m < n)))
        | .leq => some (none, .bool (decide (m ≤ n)))
        | .gtr => some (none, .bool (decide (n < m)))
        | .geq => some (none, .bool (decide (n ≤ m)))
        | .eql => some (none, .bool (decide (m = n)))
        | .neq => some (none, .bool (decide (m ≠ n)))
        | .add => (match k with | .i64 => some (some (-9223372036854775808 ≤ m + n ∧ m + n ≤ 9223372036854775807), .int .i64 (m + n)) | _ => none)
        | .sub => (match k with | .i64 => some (some (-9223372036854775808 ≤ m - n ∧ m - n ≤ 9223372036854775807), .int .i64 (m - n)) | _ => none)
        | .mul => (match k with | .i64 => some (some (-9223372036854775808 ≤ m * n ∧ m * n ≤ 9223372036854775807), .int .i64 (m * n)) | _ => none)
        | _ => none)
      | .isFalse _ => none)
    | _, _ => none)
  | _ => none
def tH : Option Prop → Prop
  | none => True
  | some p => p
theorem rM {C : Ctx} {T : mJ} (hT : dU C.P T = true) {E : Env} {L : List ad} {ty : TypeId} {q : Option Prop} {v : Value} {o : Op} (h : evalOp T E o = some (q, v)) (hq : tH q) : cF C o ty E L v L := by
  unfold dU at hT
  simp only [Bool.and_eq_true] at hT
  unfold evalOp at h
  split at h
  · split at h
    · rename_i hx; cases h; exact aK hx
    · cases h
  · split at h
    · rename_i hx; cases h; exact eZ hx
    · cases h
  · split at h
    · rename_i hc
      split at h
      · rename_i hx; cases h; exact ow hc hx
      · cases h
    · rename_i hc
      split at h
      · rename_i hx; cases h; exact ur hc hx
      · cases h
    · cases h
  · split at h
    · rename_i hp; cases h; exact Az hp
    · cases h
  · split at h
    · rename_i hx
      split at h
      · rename_i hv; cases h; exact fz hx hv
      · cases h
    · cases h
  · split at h
    · rename_i hb; cases h; exact mL hb
    · rename_i hb; cases h; exact mL hb
    · cases h
  · split at h
    · rename_i hx
      split at h
      · rename_i o ho
        cases h
        refine aE ?_ hx
        have := List.all_eq_true.1 hT.2 _ (sQ ho)
        simp only at this
        split at this
        · rename_i o' ho'; rw [ho', Nat.eq_of_beq_eq_true this]
        · cases this
      · cases h
    · cases h
  · rename_i bi x t
    split at h
    · rename_i p n c hx
      split at h
      · rename_i hm
        have := List.all_eq_true.1 hT.1 _ (vl hm)
        unfold Kg at this
        split at this
        · rename_i e he
          split at h
          · cases h; exact ez (ty' := 0) he hx
          · cases h; exact Hh (ty' := 0) he hx
          · cases h
        · cases this
      · cases h
    · cases h
  · split at h
    · rename_i k m k' n hx hy
      split at h
      · rename_i e _
        subst e
        split at h <;> first | (cases h; done) | skip
        · cases h; exact bu hx hy
        · cases h; exact eH hx hy
        · cases h; exact bd hx hy
        · cases h; exact ft hx hy
        · cases h; exact az hx hy
        · cases h; exact cx hx hy
        · split at h
          · cases h; exact du hx hy (gF hq.1 hq.2)
          · cases h
        · split at h
          · cases h; exact fT hx hy (gF hq.1 hq.2)
          · cases h
        · split at h
          · cases h; exact jv hx hy (gF hq.1 hq.2)
          · cases h
      · cases h
    · cases h
  · cases h
def ns (all : Array Oper) (E : Env) (j : Nat) (want : Bool) : Option Bool :=
  match all[j]? with
  | some o => (match o.dst with
    | some t => (match E.get t with
      | some (.bool true) => some want
      | some (.bool false) => some (!want)
      | some (.tuple vs) => (match vs with | ⟨[]⟩ => some false | _ => none)
      | _ => none)
    | none => none)
  | none => none
def nT (T : mJ) (n : Nat) : St → Option (Option Prop × St)
  | ⟨fr, E, .code c⟩ => (match c with
    | .seq x y => some (none, ⟨.sq y :: fr, E, .code x⟩)
    | .block i x => some (none, ⟨.bk i :: fr, E, .code x⟩)
    | .skip => some (none, ⟨fr, E, .norm⟩)
    | .exit i => some (none, ⟨fr, E, .exit i⟩)
    | .ret => some (none, ⟨fr, E, .ret⟩)
    | .region _ a d => (match d with | false => some (none, ⟨fr, E, .ops a a.toList⟩) | true => none)
    | .cond x a b => (match aq E x with | some (.bool true) => some (none, ⟨fr, E, .code a⟩) | some (.bool false) => some (none, ⟨fr, E, .code b⟩) | _ => none)
    | _ => none)
  | ⟨fr, E, .ops all l⟩ => (match l with
    | [] => some (none, ⟨fr, E, .norm⟩)
    | o :: os => (match o.dst with
      | none => none
      | some d => (match Nat.blt d n with
        | false => none
        | true => (match o.guard with
          | none => (match evalOp T E o.op with | some (q, v) => some (q, ⟨fr, (d, v) :: E, .ops all os⟩) | none => none)
          | some (j, want) => (match ns all E j want with
            | some true => (match evalOp T E o.op with | some (q, v) => some (q, ⟨fr, (d, v) :: E, .ops all os⟩) | none => none)
            | some false => some (none, ⟨fr, (d, undef) :: E, .ops all os⟩)
            | none => none)))))
  | ⟨fr, E, .norm⟩ => (match fr with
    | .sq c :: fr => some (none, ⟨fr, E, .code c⟩)
    | .bk _ :: fr => some (none, ⟨fr, E, .norm⟩)
    | _ => none)
  | ⟨fr, E, .exit i⟩ => (match fr with
    | .bk j :: fr => (match Nat.beq i j with | true => some (none, ⟨fr, E, .norm⟩) | false => some (none, ⟨fr, E, .exit i⟩))
    | .sq _ :: fr => some (none, ⟨fr, E, .exit i⟩)
    | .lp _ :: fr => some (none, ⟨fr, E, .exit i⟩)
    | [] => none)
  | ⟨fr, E, .ret⟩ => (match fr with
    | _ :: fr => some (none, ⟨fr, E, .ret⟩)
    | [] => none)
def kn (T : mJ) (n : Nat) : Nat → St → Option Prop → Option (Option Prop × St)
  | 0, s, p => some (p, s)
  | k + 1, s, p => match nT T n s with
    | some (none, s') => kn T n k s' p
    | some (some q, s') => (match p with | none => kn T n k s' (some q) | some p => kn T n k s' (some (p ∧ q)))
    | none => none
section
variable {C : Ctx} {Q : QT} {L : List ad} {E : Env} {fr : List Fr}
theorem we {all : Array Oper} {E : Env} {j : Nat} {want : Bool} (hs : ns all E j want = some true) : jU all E j = some want := by
  unfold ns at hs
  unfold jU
  cases hj : all[j]? with
  | none => rw [hj] at hs; cases hs
  | some oj =>
    rw [hj] at hs
    simp only at hs ⊢
    cases ht : oj.dst with
    | none => rw [ht] at hs; cases hs
    | some t =>
      rw [ht] at hs
      simp only at hs ⊢
      split at hs
      · rename_i hb; cases hs; rw [hb]
      · rename_i hb
        have : want = false := by cases want <;> simp_all
        subst this; rw [hb]
      · split at hs <;> cases hs
      · cases hs
theorem xd {all : Array Oper} {E : Env} {j : Nat} {want : Bool} (hs : ns all E j want = some false) : (∃ b, jU all E j = some b ∧ (b == want) = false) ∨ (∃ oj t, all[j]? = some oj ∧ oj.dst = some t ∧ E.get t = some undef) := by
  unfold ns at hs
  unfold jU
  cases hj : all[j]? with
  | none => rw [hj] at hs; cases hs
  | some oj =>
    rw [hj] at hs
    simp only at hs ⊢
    cases ht : oj.dst with
    | none => rw [ht] at hs; cases hs
    | some t =>
      rw [ht] at hs
      simp only at hs ⊢
      split at hs
      · rename_i hb
        have : want = false := by cases want <;> simp_all
        subst this
        exact .inl ⟨true, by rw [hb], rfl⟩
      · rename_i hb
        have : want = true := by cases want <;> simp_all
        subst this
        exact .inl ⟨false, by rw [hb], rfl⟩
      · rename_i vs hb
        split at hs
        · exact .inr ⟨oj, t, rfl, ht, hb⟩
        · cases hs
      · cases hs
theorem Oo {all : Array Oper} {o : Oper} {os : List Oper} {R : QT} {j : Nat} {want : Bool} (hg : o.guard = some (j, want)) (hs : ns all E j want = some true) (h : dM C all ({ o with guard := none } :: os) R E L) : dM C all (o :: os) R E L := by
  obtain ⟨dst, op, ty, pos, aft, g⟩ := o
  simp only at hg
  subst hg
  exact ag (we hs) h
theorem Md {all : Array Oper} {o : Oper} {os : List Oper} {R : QT} {j d : Nat} {want : Bool} (hg : o.guard = some (j, want)) (hd : o.dst = some d) (hn : Nat.blt d C.n = true) (hs : ns all E j want = some false) (h : dM C all os R ((d, undef) :: E) L) : dM C all (o :: os) R E L := by
  obtain ⟨dst, op, ty, pos, aft, g⟩ := o
  simp only at hg hd
  subst hg; subst hd
  rcases xd hs with ⟨b, h1, h2⟩ | ⟨oj, t, h1, h2, h3⟩
  · exact wq h1 h2 hn h
  · exact uy h1 h2 h3 hn h
theorem r3 {T : mJ} (hT : dU C.P T = true) {s s' : St} {q : Option Prop} (h : nT T C.n s = some (q, s')) (hq : tH q) (g : den C Q L s') : den C Q L s := by
  obtain ⟨fr, E, pos⟩ := s
  cases pos with
  | code c =>
    cases c with
    | seq x y => cases h; exact jN g
    | block i x => cases h; exact n6 g
    | skip => cases h; exact KD g
    | exit i => cases h; exact Lj g
    | ret => cases h; exact GG g
    | region i a d =>
      cases d with
      | false =>
        cases h
        obtain ⟨l⟩ := a
        exact bK (l := l) g
      | true => cases h
    | cond x a b =>
      simp only [nT] at h
      split at h
      · rename_i hx; cases h; exact oC hx g
      · rename_i hx; cases h; exact lZ hx g
      · cases h
    | loop _ => cases h
    | rangeFunc _ _ _ _ => cases h
    | scope _ => cases h
    | label _ => cases h
    | goto _ => cases h
    | refuse _ => cases h
  | ops all l =>
    cases l with
    | nil => cases h; exact cW g
    | cons o os =>
      simp only [nT] at h
      split at h
      · cases h
      · rename_i d hd
        split at h
        · cases h
        · rename_i hn
          have plain : ∀ {o : Oper} {v : Value}, o.dst = some d → o.guard = none → evalOp T E o.op = some (q, v) → dM C all os (KF C Q fr) ((d, v) :: E) L → dM C all (o :: os) (KF C Q fr) E L := by
            rintro ⟨dst, op, ty, pos, aft, gd⟩ v h1 h2 h3 h4
            simp only at h1 h2 h3
            subst h1; subst h2
            exact tC (rM hT h3 hq) hn h4
          split at h
          · rename_i hg
            split at h
            · rename_i v hv; cases h; exact plain hd hg hv g
            · cases h
          · rename_i j want hg
            split at h
            · rename_i hs
              split at h
              · rename_i v hv
                cases h
                exact Oo hg hs (plain (o := { o with guard := none }) hd rfl hv g)
              · cases h
            · rename_i hs; cases h; exact Md hg hd hn hs g
            · cases h
  | norm =>
    cases fr with
    | nil => cases h
    | cons f fr =>
      cases f with
      | sq c => cases h; exact bN g
      | bk i => cases h; exact kC g
      | lp J => cases h
  | exit i =>
    cases fr with
    | nil => cases h
    | cons f fr =>
      cases f with
      | sq c => cases h; exact He g
      | lp J => cases h; exact He g
      | bk j =>
        simp only [nT] at h
        split at h
        · rename_i hb
          cases h
          have := Nat.eq_of_beq_eq_true hb
          subst this
          exact OE g
        · rename_i hb; cases h; exact Oa hb g
  | ret =>
    cases fr with
    | nil => cases h
    | cons f fr =>
      cases h
      cases f with
      | sq c => exact GP g
      | bk i => exact ND g
      | lp J => exact GP g
theorem n9 {T : mJ} (hT : dU C.P T = true) : ∀ (k : Nat) {s s' : St} {p q : Option Prop}, kn T C.n k s p = some (q, s') → tH q → (tH p → den C Q L s' → den C Q L s) ∧ tH p
  | 0, s, s', p, q, h, hq => by cases h; exact ⟨fun _ g => g, hq⟩
  | k + 1, s, s', p, q, h, hq => by
    simp only [kn] at h
    split at h
    · rename_i s1 h1
      obtain ⟨h2, h3⟩ := n9 hT k h hq
      exact ⟨fun hp g => r3 hT h1 trivial (h2 hp g), h3⟩
    · rename_i r s1 h1
      split at h
      · obtain ⟨h2, h3⟩ := n9 hT k h hq
        exact ⟨fun _ g => r3 hT h1 h3 (h2 h3 g), trivial⟩
      · rename_i p'
        obtain ⟨h2, h3⟩ := n9 hT k h hq
        exact ⟨fun _ g => r3 hT h1 h3.2 (h2 h3 g), h3.1⟩
    · cases h
theorem qc {T : mJ} (hT : dU C.P T = true) {k : Nat} {s s' : St} (h : kn T C.n k s none = some (none, s')) (g : den C Q L s') : den C Q L s := (n9 hT k h trivial).1 trivial g
theorem qE {T : mJ} (hT : dU C.P T = true) {k : Nat} {s s' : St} {p : Prop} (h : kn T C.n k s none = some (some p, s')) (hp : p) (g : den C Q L s') : den C Q L s := (n9 hT k h hp).1 trivial g
variable {T : mJ} {c : Code} {all : Array Oper} {l : List Oper} {s' : St} {J : Env → List ad → Prop} {p : Prop}
theorem rC (hT : dU C.P T = true) (k : Nat) (h : kn T C.n k ⟨fr, E, .code c⟩ none = some (none, s')) (g : den C Q L s') : Wp C c (KF C Q fr) E L := qc hT h g
theorem rO (hT : dU C.P T = true) (k : Nat) (h : kn T C.n k ⟨fr, E, .ops all l⟩ none = some (none, s')) (g : den C Q L s') : dM C all l (KF C Q fr) E L := qc hT h g
theorem rN (hT : dU C.P T = true) (k : Nat) (h : kn T C.n k ⟨fr, E, .norm⟩ none = some (none, s')) (g : den C Q L s') : KF C Q fr .normal E L := qc hT h g
theorem rT (hT : dU C.P T = true) (k : Nat) (h : kn T C.n k ⟨[], E, .code c⟩ none = some (none, s')) (g : den C Q L s') : Wp C c Q E L := qc (Q := Q) hT h g
theorem rL (hT : dU C.P T = true) (k : Nat) (h : kn T C.n k ⟨.lp J :: fr, E, .code c⟩ none = some (none, s')) (g : den C Q L s') : Wp C c (iI J (KF C Q fr)) E L := qc (Q := Q) hT h g
theorem fH (hT : dU C.P T = true) (k : Nat) (h : kn T C.n k ⟨fr, E, .code c⟩ none = some (some p, s')) (hp : p) (g : den C Q L s') : Wp C c (KF C Q fr) E L := qE hT h hp g
theorem cQ (hT : dU C.P T = true) (k : Nat) (h : kn T C.n k ⟨fr, E, .ops all l⟩ none = some (some p, s')) (hp : p) (g : den C Q L s') : dM C all l (KF C Q fr) E L := qE hT h hp g
theorem Nu (hT : dU C.P T = true) (k : Nat) (h : kn T C.n k ⟨fr, E, .norm⟩ none = some (some p, s')) (hp : p) (g : den C Q L s') : KF C Q fr .normal E L := qE hT h hp g
theorem DX (hT : dU C.P T = true) (k : Nat) (h : kn T C.n k ⟨[], E, .code c⟩ none = some (some p, s')) (hp : p) (g : den C Q L s') : Wp C c Q E L := qE (Q := Q) hT h hp g
theorem PH (hT : dU C.P T = true) (k : Nat) (h : kn T C.n k ⟨.lp J :: fr, E, .code c⟩ none = some (some p, s')) (hp : p) (g : den C Q L s') : Wp C c (iI J (KF C Q fr)) E L := qE (Q := Q) hT h hp g
end
end Go.Sl
namespace Go.Sl
def fK (C : Ctx) (all : Array Oper) (l : List Oper) (Q : QT) (E : Env) (L : List ad) : Prop := ∀ a w, gl C E a → Inv C.w0 L w → wpStill C.P all w (fun a' => Qh C Q .normal a' w) l a
def ra (all : Array Oper) : Nat → List Oper → Bool
  | _, [] => true
  | i, o :: os => o.after.toList.all (fun e => !Region.binds .any e || Nat.blt e.on i) && os.all (fun oj => oj.after.toList.any (fun e => Region.binds .any e && Nat.beq e.on i) || o.apart all oj) && ra all (i + 1) os
def Bh (l : List Oper) : Bool := l.all (fun o => noSelect o.op) && ra l.toArray 0 l
theorem o6 {all : Array Oper} : ∀ {l : List Oper} {i : Nat}, ra all i l = true → ∀ {k : Nat} {o : Oper}, l[k]? = some o → (∀ e ∈ o.after.toList, Region.binds .any e = true → e.on < i + k) ∧ ∀ j oj, k < j → l[j]? = some oj → (∃ e ∈ oj.after.toList, Region.binds .any e = true ∧ e.on = i + k) ∨ o.apart all oj = true
  | [], i, _, k, o, h => by simp at h
  | x :: l, i, hB, 0, o, h => by
    simp at h
    subst h
    simp only [ra, Bool.and_eq_true] at hB
    refine ⟨fun e he hb => ?_, fun j oj hj hoj => ?_⟩
    · have := List.all_eq_true.1 hB.1.1 e he
      rw [hb] at this
      simpa using fU (by simpa using this)
    · obtain ⟨j, rfl⟩ : ∃ j', j = j' + 1 := ⟨j - 1, by omega⟩
      have := List.all_eq_true.1 hB.1.2 oj (List.mem_of_getElem? (by simpa using hoj))
      simp only [Bool.or_eq_true, List.any_eq_true, Bool.and_eq_true] at this
      rcases this with ⟨e, he, h1, h2⟩ | h
      · exact .inl ⟨e, he, h1, Nat.eq_of_beq_eq_true h2⟩
      · exact .inr h
  | x :: l, i, hB, k + 1, o, h => by
    simp only [ra, Bool.and_eq_true] at hB
    obtain ⟨h1, h2⟩ := o6 hB.2 (by simpa using h : l[k]? = some o)
    refine ⟨fun e he hb => by have := h1 e he hb; omega, fun j oj hj hoj => ?_⟩
    obtain ⟨j, rfl⟩ : ∃ j', j = j' + 1 := ⟨j - 1, by omega⟩
    rcases h2 j oj (by omega) (by simpa using hoj) with ⟨e, he, hb, hon⟩ | h
    · exact .inl ⟨e, he, hb, by omega⟩
    · exact .inr h
def lq (n k : Nat) : Array Bool := ((List.range n).map fun j => decide (j < k)).toArray
theorem oW {n k j : Nat} (d : Bool) (h : j < n) : (lq n k).getD j d = decide (j < k) := by
  simp [lq, h]
theorem Qg {n k j : Nat} (d : Bool) (h : n ≤ j) : (lq n k).getD j d = d := by
  simp [lq, h]
theorem E6 {n k : Nat} (h : k < n) : (lq n k).setIfInBounds k true = lq n (k + 1) := by
  apply Array.ext
  · simp [lq]
  · intro i h1 h2
    simp [lq] at h1 h2
    rw [Array.getElem_setIfInBounds (by simpa [lq] using h1)]
    simp only [lq, List.getElem_toArray, List.getElem_map, List.getElem_range]
    by_cases e : k = i
    · subst e; simp
    · rw [if_neg e]
      rw [decide_eq_decide]
      omega
theorem CJ {l : List Oper} (hB : ra l.toArray 0 l = true) : ∀ (m k : Nat), k + m = l.length → Region.lexFrom .any l.toArray m k (lq l.length k) = true
  | 0, k, h => by
    simp only [Region.lexFrom, List.isEmpty_iff]
    apply List.eq_nil_iff_forall_not_mem.2
    intro i hi
    obtain ⟨h1, o, ho, _⟩ := mem_ready.1 hi
    have hlt : i < l.length := by
      have : l[i]? = some o := by simpa using ho
      exact (List.getElem?_eq_some_iff.1 this).1
    rw [oW _ hlt] at h1
    simp at h1
    omega
  | m + 1, k, h => by
    have hk : k < l.length := by omega
    obtain ⟨o, ho⟩ : ∃ o, l[k]? = some o := ⟨l[k], List.getElem?_eq_getElem hk⟩
    obtain ⟨h1, h2⟩ := o6 hB ho
    rw [Nat.zero_add] at h1 h2
    have hoA : l.toArray[k]? = some o := by simpa using ho
    simp only [Region.lexFrom, Bool.and_eq_true]
    refine ⟨⟨?_, ?_⟩, ?_⟩
    · rw [List.contains_iff_mem]
      refine mem_ready.2 ⟨by rw [oW _ hk]; simp, o, hoA, fun e he hb => ?_⟩
      have := h1 e (by simpa using he) hb
      rw [oW _ (by omega)]
      simpa using this
    · simp only [Region.free, hoA, List.all_eq_true, List.mem_range]
      intro j hj
      have hj : j < l.length := by simpa using hj
      obtain ⟨oj, hoj⟩ : ∃ oj, l[j]? = some oj := ⟨l[j], List.getElem?_eq_getElem hj⟩
      have hojA : l.toArray[j]? = some oj := by simpa using hoj
      simp only [hojA, Bool.or_eq_true]
      rcases Nat.lt_trichotomy j k with h3 | h3 | h3
      · left; right
        rw [oW _ hj]; simpa using h3
      · left; left; simp [h3]
      · right
        rcases h2 j oj h3 hoj with ⟨e, he, hb, hon⟩ | h
        · left
          rw [Array.any_eq_true']
          exact ⟨e, by simpa using he, by rw [hb, hon]; simp⟩
        · exact .inr h
    · rw [E6 hk]
      exact CJ hB m (k + 1) (by omega)
theorem yY {l : List Oper} (h : Bh l = true) : Region.lexB .any l.toArray = true := by
  unfold Bh at h
  simp only [Bool.and_eq_true] at h
  have e : Array.replicate l.toArray.size false = lq l.length 0 := by
    apply Array.ext
    · simp [lq]
    · intro i h1 h2; simp [lq]
  simp only [Region.lexB, Bool.and_eq_true]
  refine ⟨?_, ?_⟩
  · unfold Region.noSelect
    rw [Array.all_eq_true_iff_forall_mem]
    intro o ho
    have := List.all_eq_true.1 h.1 o (by simpa using ho)
    unfold noSelect at this
    split <;> simp_all
  · rw [e]
    have := CJ h.2 l.length 0 (by omega)
    simpa using this
section
variable {C : Ctx} {Q : QT} {E : Env} {L : List ad} {ops : Array Oper} {rest : List Oper} {d : Nat} {ty : TypeId} {pos : String} {aft : Array Edge} {op : Op} {v : Value}
theorem oF {id : Nat} {l : List Oper} (hm : C.P.follows .mixedOrders = true) (hB : Bh l = true) (h : fK C l.toArray l Q E L) : Wp C (.region id l.toArray true) Q E L :=
  fun a w ha hi => wp_region_still_lit hm (yY hB) (h a _ ha hi.drew)
namespace Rg
theorem cW (h : Q .normal E L) : fK C ops [] Q E L := fun a w ha hi => ⟨E, L, ha, hi, h⟩
theorem QY (E' : Env) (l : Le E' E) (h : fK C ops rest Q E' L) : fK C ops rest Q E L := fun a w ha hi => h a w (ha.le l) hi
theorem tC (h : cF C op ty E L v L) (hd : Nat.blt d C.n = true) (hk : Gm op v = true) (k : fK C ops rest Q ((d, v) :: E) L) : fK C ops (⟨some d, op, ty, pos, aft, none⟩ :: rest) Q E L := by
  intro a w ha hi
  refine wpStill_step fun K hK => ?_
  rw [if_pos (by simp [Region.wanted])]
  obtain ⟨w', _, _, hr⟩ := h (some d) pos aft none a w ha hi
  unfold Oper.still
  rw [hr hk, Oper.stillUpon_value]
  exact hK _ (k _ _ (ha.put (fU hd) _) hi)
theorem ag {dst : Option Nat} {j : Nat} {want : Bool} (hg : jU ops E j = some want) (h : fK C ops (⟨dst, op, ty, pos, aft, none⟩ :: rest) Q E L) : fK C ops (⟨dst, op, ty, pos, aft, some (j, want)⟩ :: rest) Q E L := by
  intro a w ha hi
  have h1 := h a w ha hi
  have hw := kA (o := ⟨dst, op, ty, pos, aft, some (j, want)⟩) ha hg rfl
  unfold wpStill at h1 ⊢
  rw [if_pos (by simp [Region.wanted])] at h1
  rw [if_pos (by rw [hw]; simp)]
  exact h1
theorem wq {j : Nat} {want b : Bool} (hg : jU ops E j = some b) (hb : (b == want) = false) (hd : Nat.blt d C.n = true) (h : fK C ops rest Q ((d, undef) :: E) L) : fK C ops (⟨some d, op, ty, pos, aft, some (j, want)⟩ :: rest) Q E L := by
  intro a w ha hi
  have hw := kA (o := ⟨some d, op, ty, pos, aft, some (j, want)⟩) ha hg rfl
  unfold wpStill
  rw [if_neg (by rw [hw, hb]; simp)]
  exact h _ _ (ha.put (fU hd) _) hi
theorem uy {j t : Nat} {want : Bool} {oj : Oper} (h1 : ops[j]? = some oj) (h2 : oj.dst = some t) (h3 : E.get t = some undef) (hd : Nat.blt d C.n = true) (h : fK C ops rest Q ((d, undef) :: E) L) : fK C ops (⟨some d, op, ty, pos, aft, some (j, want)⟩ :: rest) Q E L := by
  intro a w ha hi
  have hw := pP (o := ⟨some d, op, ty, pos, aft, some (j, want)⟩) ha h1 h2 h3 rfl
  unfold wpStill
  rw [if_neg (by rw [hw]; simp)]
  exact h _ _ (ha.put (fU hd) _) hi
theorem yq {b : Bool} (t : Nat) (ht : E.get t = some (.bool b)) (hT : b = true → fK C ops rest Q ((t, .bool true) :: E) L) (hF : b = false → fK C ops rest Q ((t, .bool false) :: E) L) : fK C ops rest Q E L := by
  have key : ∀ c : Bool, b = c → Le ((t, .bool c) :: E) E := fun c e => by subst e; exact Le.cons ht (Le.refl _)
  intro a w ha hi
  cases b with
  | true => exact hT rfl a w (ha.le (key _ rfl)) hi
  | false => exact hF rfl a w (ha.le (key _ rfl)) hi
theorem ld {p : Prop} [Decidable p] (t : Nat) (ht : E.get t = some (.bool (decide p))) (hT : p → fK C ops rest Q ((t, .bool true) :: E) L) (hF : ¬ p → fK C ops rest Q ((t, .bool false) :: E) L) : fK C ops rest Q E L :=
  yq t ht (fun e => hT (of_decide_eq_true e)) (fun e => hF (of_decide_eq_false e))
end Rg
theorem Cc {T : mJ} {E : Env} {q : Option Prop} {v : Value} {o : Op} (h : evalOp T E o = some (q, v)) : Gm o v = true := by
  unfold evalOp at h
  split at h
  · rfl
  · rfl
  · rfl
  · rfl
  · rfl
  · rfl
  · rfl
  · split at h
    · split at h
      · split at h
        · cases h; rfl
        · cases h; rfl
        · cases h
      · cases h
    · cases h
  · split at h
    · split at h
      · split at h <;> first | (cases h; done) | (cases h; rfl) | (split at h <;> first | (cases h; done) | (cases h; rfl))
      · cases h
    · cases h
  · cases h
def sv (T : mJ) (n : Nat) (all : Array Oper) : Nat → List Oper → Env → Option Prop → Option (Option Prop × List Oper × Env)
  | 0, l, E, p => some (p, l, E)
  | k + 1, l, E, p => (match nT T n ⟨[], E, .ops all l⟩ with
    | some (q, s) => (match s.pos with
      | .ops _ l' => (match q with
        | none => sv T n all k l' s.E p
        | some q => (match p with | none => sv T n all k l' s.E (some q) | some p => sv T n all k l' s.E (some (p ∧ q))))
      | _ => none)
    | none => none)
theorem uR {T : mJ} (hT : dU C.P T = true) {l : List Oper} {all a2 : Array Oper} {l' : List Oper} {fr' : List Fr} {E' : Env} {q : Option Prop} (h : nT T C.n ⟨[], E, .ops all l⟩ = some (q, ⟨fr', E', .ops a2 l'⟩)) (hq : tH q) (g : fK C all l' Q E' L) : fK C all l Q E L := by
  cases l with
  | nil => cases h
  | cons o os =>
    simp only [nT] at h
    split at h
    · cases h
    · rename_i d hd
      split at h
      · cases h
      · rename_i hn
        have plain : ∀ {o : Oper} {v : Value}, o.dst = some d → o.guard = none → evalOp T E o.op = some (q, v) → fK C all os Q ((d, v) :: E) L → fK C all (o :: os) Q E L := by
          rintro ⟨dst, op, ty, pos, aft, gd⟩ v h1 h2 h3 h4
          simp only at h1 h2 h3
          subst h1; subst h2
          exact Rg.tC (rM hT h3 hq) hn (Cc h3) h4
        split at h
        · split at h
          · rename_i hg _ _ _ hv; cases h; exact plain hd hg hv g
          · cases h
        · rename_i j want hg
          split at h
          · rename_i hs
            split at h
            · rename_i hv
              cases h
              obtain ⟨dst, op, ty, pos, aft, gd⟩ := o
              simp only at hg hd
              subst hg; subst hd
              refine Rg.ag ?_ (plain (o := ⟨_, op, ty, pos, aft, none⟩) rfl rfl hv g)
              exact we hs
            · cases h
          · rename_i hs
            cases h
            obtain ⟨dst, op, ty, pos, aft, gd⟩ := o
            simp only at hg hd
            subst hg; subst hd
            rcases xd hs with ⟨b, h1, h2⟩ | ⟨oj, t, h1, h2, h3⟩
            · exact Rg.wq h1 h2 hn g
            · exact Rg.uy h1 h2 h3 hn g
          · cases h
theorem n4 {T : mJ} (hT : dU C.P T = true) {all : Array Oper} : ∀ (k : Nat) {l l' : List Oper} {E E' : Env} {p q : Option Prop}, sv T C.n all k l E p = some (q, l', E') → tH q → (tH p → fK C all l' Q E' L → fK C all l Q E L) ∧ tH p
  | 0, l, l', E, E', p, q, h, hq => by cases h; exact ⟨fun _ g => g, hq⟩
  | k + 1, l, l', E, E', p, q, h, hq => by
    simp only [sv] at h
    split at h
    · rename_i q1 s1 h1
      obtain ⟨fr1, E1, pos1⟩ := s1
      cases pos1 with
      | ops a2 l2 =>
        simp only at h
        cases q1 with
        | none =>
          obtain ⟨h2, h3⟩ := n4 hT k h hq
          exact ⟨fun hp g => uR hT h1 trivial (h2 hp g), h3⟩
        | some r =>
          cases p with
          | none =>
            obtain ⟨h2, h3⟩ := n4 hT k h hq
            exact ⟨fun _ g => uR hT h1 h3 (h2 h3 g), trivial⟩
          | some p' =>
            obtain ⟨h2, h3⟩ := n4 hT k h hq
            exact ⟨fun _ g => uR hT h1 h3.2 (h2 h3 g), h3.1⟩
      | code _ => cases h
      | norm => cases h
      | exit _ => cases h
      | ret => cases h
    · cases h
theorem rR {T : mJ} (hT : dU C.P T = true) (k : Nat) {all : Array Oper} {l l' : List Oper} {E' : Env} (h : sv T C.n all k l E none = some (none, l', E')) (g : fK C all l' Q E' L) : fK C all l Q E L := (n4 hT k h trivial).1 trivial g
theorem KS {T : mJ} (hT : dU C.P T = true) (k : Nat) {all : Array Oper} {l l' : List Oper} {E' : Env} {p : Prop} (h : sv T C.n all k l E none = some (some p, l', E')) (hp : p) (g : fK C all l' Q E' L) : fK C all l Q E L := (n4 hT k h hp).1 trivial g
end
end Go.Sl
namespace Go.Sl
def calm (o : Oper) : Oper := { o with op := .move (.const undef) }
def Ah (l : List Oper) : List Oper := l.dropLast ++ (match l.getLast? with | some o => [calm o] | none => [])
def Gt (l : List Oper) : Bool := match l.getLast? with
  | some o => (List.range (l.length - 1)).all (fun j => o.after.toList.any fun e => Region.binds .any e && Nat.beq e.on j) && noSelect o.op
  | none => false
def PB (l : List Oper) : Bool := Bh (Ah l) && Gt l
def Env.del (d : Nat) : Env → Env
  | [] => []
  | (k, v) :: E => cond (Nat.beq k d) (Env.del d E) ((k, v) :: Env.del d E)
theorem Env.va {d k : Nat} {u : Value} : ∀ {E : Env}, (E.del d).get k = some u → k ≠ d ∧ E.get k = some u
  | [], h => by cases h
  | (q, y) :: E, h => by
    rw [Env.jl]
    unfold Env.del at h
    cases hq : Nat.beq q d with
    | true =>
      rw [hq] at h
      obtain ⟨h1, h2⟩ := Env.va h
      have : q = d := Nat.eq_of_beq_eq_true hq
      exact ⟨h1, by rw [if_neg (by omega)]; exact h2⟩
    | false =>
      rw [hq] at h
      simp only [cond_false] at h
      rw [Env.jl] at h
      have hqd : q ≠ d := fun e => by subst e; rw [Nat.beq_refl] at hq; cases hq
      by_cases hqk : q = k
      · rw [if_pos hqk] at h ⊢; exact ⟨by omega, h⟩
      · rw [if_neg hqk] at h ⊢; exact Env.va h
def ua (C : Ctx) (l : List Oper) (Q : QT) : QT := fun e E L => match l.getLast? with
  | some o => (match o.dst with | some d => dM C l.toArray [o] Q (E.del d) L | none => dM C l.toArray [o] Q E L)
  | none => False
theorem Hl {l : List Oper} {o : Oper} (h : l.getLast? = some o) : l = l.dropLast ++ [o] ∧ Ah l = l.dropLast ++ [calm o] := by
  have hne : l ≠ [] := by intro e; subst e; cases h
  have e1 := List.dropLast_concat_getLast hne
  have e2 : l.getLast hne = o := by rw [List.getLast?_eq_some_getLast hne] at h; exact Option.some.inj h
  rw [e2] at e1
  exact ⟨e1.symm, by unfold Ah; rw [h]⟩
section
variable {P : Program} {w : World}
theorem qP {l0 : List Oper} {o : Oper} (tm : Array Value) : yielded (l0 ++ [calm o]).toArray tm = yielded (l0 ++ [o]).toArray tm := by
  funext j
  unfold yielded
  simp only [List.getElem?_toArray]
  rcases Nat.lt_or_ge j l0.length with h | h
  · rw [List.getElem?_append_left h, List.getElem?_append_left h]
  · rw [List.getElem?_append_right h, List.getElem?_append_right h]
    cases j - l0.length with
    | zero => rfl
    | succ k => simp
theorem oY {l0 : List Oper} {o : Oper} (listed : Array Bool) : Region.ready .any (l0 ++ [calm o]).toArray listed = Region.ready .any (l0 ++ [o]).toArray listed := by
  unfold Region.ready
  simp only [List.size_toArray, List.length_append, List.length_singleton]
  apply List.filter_congr
  intro i hi
  congr 1
  simp only [List.getElem?_toArray]
  rcases Nat.lt_or_ge i l0.length with h | h
  · rw [List.getElem?_append_left h, List.getElem?_append_left h]
  · rw [List.getElem?_append_right h, List.getElem?_append_right h]
    cases i - l0.length with
    | zero => rfl
    | succ k => simp
theorem oX {l0 : List Oper} {o : Oper} {K K' : Act → Prop} (hK : ∀ a, K a → K' a) : ∀ (l : List Oper) (a : Act), wpStill P (l0 ++ [o]).toArray w K l a → wpStill P (l0 ++ [calm o]).toArray w K' l a
  | [], a, h => hK a h
  | x :: l, a, h => by
    unfold wpStill at h ⊢
    rw [qP]
    split
    · rename_i hw
      rw [if_pos hw] at h
      exact Oper.still_mono (fun a h => oX hK l a h) h
    · rename_i hw
      rw [if_neg hw] at h
      exact oX hK l _ h
theorem np {ops : Array Oper} {K : Act → Prop} : ∀ (l l' : List Oper) (a : Act), wpStill P ops w (fun a => wpStill P ops w K l' a) l a → wpStill P ops w K (l ++ l') a
  | [], l', a, h => h
  | x :: l, l', a, h => by
    rw [List.cons_append]
    unfold wpStill at h ⊢
    split
    · rename_i hw
      rw [if_pos hw] at h
      exact Oper.still_mono (fun a h => np l l' a h) h
    · rename_i hw
      rw [if_neg hw] at h
      exact np l l' _ h
theorem Ay {ops : Array Oper} {o : Oper} {K : Act → Prop} {a : Act} (h : K (a.put o.dst undef)) : wpStill P ops w K [calm o] a := by
  unfold wpStill
  have e : (calm o).dst = o.dst := rfl
  split
  · unfold Oper.still
    have hr : (execOp a.eval (calm o)).run P w = .ok (.value undef) w := by simp [calm, execOp, Act.eval]
    rw [hr, Oper.stillUpon_value, e]
    exact h
  · rw [e]; exact h
theorem FE {l0 : List Oper} {o : Oper} {Q : Exit → Act → World → Prop} {Q' : Act → Prop} (hlt : ∀ e ∈ o.after.toList, Region.binds .any e = true → e.on < l0.length) (hsm : ∀ k x, l0[k]? = some x → ∀ e ∈ x.after.toList, Region.binds .any e = true → e.on < k)
    (hwait : ∀ j, j < l0.length → ∃ e ∈ o.after.toList, Region.binds .any e = true ∧ e.on = j)
    (hK : ∀ a, Q' (a.put o.dst undef) → ∀ K : Act → World → Prop, (∀ a w, Q .normal a w → K a w) → if Region.wanted o (yielded (l0 ++ [o]).toArray a.tmps) then (o.wp P a w K Q ∨ (o.asks P a w ∧ LetsOut Q)) else K (a.put o.dst undef) w) :
    ∀ (fuel : Nat) (listed : Array Bool) (a : Act), listed.size = l0.length + 1 → listed.getD l0.length true = false → wpAnyS P .any (l0 ++ [calm o]).toArray w Q' fuel listed a → wpAny P .any (l0 ++ [o]).toArray Q fuel listed a w := by
  have hne : ∀ listed : Array Bool, listed.size = l0.length + 1 → listed.getD l0.length true = false → Region.ready .any (l0 ++ [o]).toArray listed ≠ [] := by
    intro listed hs hl h0
    have key : ∀ i, i < l0.length → listed.getD i true = true := by
      intro i
      induction i using Nat.strongRecOn with
      | _ i ih =>
        intro hi
        cases hd : listed.getD i true with
        | true => rfl
        | false =>
          exfalso
          have : i ∈ Region.ready .any (l0 ++ [o]).toArray listed := mem_ready.2 ⟨hd, l0[i], by simp [List.getElem?_append_left hi, hi], fun e he hb => by
            have hlt2 := hsm i _ (List.getElem?_eq_getElem hi) e (by simpa using he) hb
            have := ih e.on hlt2 (by omega)
            have hsz : e.on < listed.size := by omega
            simp [hsz] at this ⊢
            exact this⟩
          rw [h0] at this; cases this
    have : l0.length ∈ Region.ready .any (l0 ++ [o]).toArray listed := mem_ready.2 ⟨hl, o, by simp, fun e he hb => by
      have hlt2 := hlt e (by simpa using he) hb
      have := key e.on hlt2
      have hsz : e.on < listed.size := by omega
      simp [hsz] at this ⊢
      exact this⟩
    rw [h0] at this; cases this
  intro fuel
  induction fuel with
  | zero =>
    intro listed a hs hl h
    have := h.1
    rw [oY] at this
    exact absurd this (hne listed hs hl)
  | succ fuel ih =>
    intro listed a hs hl h
    refine ⟨fun h0 => absurd h0 (hne listed hs hl), fun i hi => ?_⟩
    have h1 := h.2 i (by rw [oY]; exact hi)
    obtain ⟨hun, x, hx, hall⟩ := mem_ready.1 hi
    have hx' : (l0 ++ [o])[i]? = some x := by simpa using hx
    have hile : i < l0.length + 1 := by
      have := (List.getElem?_eq_some_iff.1 hx').1
      simpa using this
    rcases Nat.lt_or_ge i l0.length with hi2 | hi2
    · -- one of the first
      have hxc : (l0 ++ [calm o]).toArray[i]? = some x := by
        simp only [List.getElem?_toArray]
        rw [List.getElem?_append_left hi2] at hx' ⊢
        exact hx'
      have h2 : stOp P (l0 ++ [o]).toArray w i (wpAnyS P .any (l0 ++ [calm o]).toArray w Q' fuel (listed.setIfInBounds i true)) a := by
        unfold stOp at h1 ⊢
        rw [hxc] at h1
        rw [hx]
        simp only at h1 ⊢
        rw [qP] at h1
        exact h1
      refine wpOp_of_stOp (fun a' h3 => ih _ a' (by simp [hs]) ?_ h3) h2
      rw [getD_set_ne true (by omega)]
      exact hl
    · -- the last one
      have hil : i = l0.length := by omega
      subst hil
      have hxo : x = o := by simpa using hx'.symm
      subst hxo
      have hxc : (l0 ++ [calm x]).toArray[l0.length]? = some (calm x) := by simp
      have hlisted : Region.ready .any (l0 ++ [x]).toArray (listed.setIfInBounds l0.length true) = [] := by
        apply List.eq_nil_iff_forall_not_mem.2
        intro j hj
        obtain ⟨g1, y, hy, _⟩ := mem_ready.1 hj
        have hy' : (l0 ++ [x])[j]? = some y := by simpa using hy
        have hjl : j < l0.length + 1 := by
          have := (List.getElem?_eq_some_iff.1 hy').1
          simpa using this
        rcases Nat.lt_or_ge j l0.length with hj2 | hj2
        · obtain ⟨e, he, hb, hon⟩ := hwait j hj2
          have := hall e (by simpa using he) hb
          rw [hon] at this
          rw [getD_set_ne true (by omega)] at g1
          have hsz : j < listed.size := by omega
          simp [hsz] at this g1
          rw [this] at g1; cases g1
        · have : j = l0.length := by omega
          subst this
          simp [hs] at g1
      have h3 : Q' (a.put x.dst undef) := by
        unfold stOp at h1
        rw [hxc] at h1
        simp only at h1
        have hfin : ∀ a', wpAnyS P .any (l0 ++ [calm x]).toArray w Q' fuel (listed.setIfInBounds l0.length true) a' → Q' a' := by
          intro a' h4
          have hr0 : Region.ready .any (l0 ++ [calm x]).toArray (listed.setIfInBounds l0.length true) = [] := by rw [oY]; exact hlisted
          cases fuel with
          | zero => exact h4.2
          | succ f => exact h4.1 hr0
        have hr : (execOp a.eval (calm x)).run P w = .ok (.value undef) w := by simp [calm, execOp, Act.eval]
        split at h1
        · unfold Oper.still at h1
          rw [hr, Oper.stillUpon_value] at h1
          exact hfin _ h1
        · exact hfin _ h1
      have h4 := hK a h3 (wpAny P .any (l0 ++ [x]).toArray Q fuel (listed.setIfInBounds l0.length true)) (fun a' w' hq => wpAny_done hlisted hq fuel)
      unfold wpOp
      simp only [hx]
      split
      · rename_i hw; rw [if_pos hw] at h4; exact h4
      · rename_i hw; rw [if_neg hw] at h4; exact h4
end
section
variable {C : Ctx} {Q : QT} {E : Env} {L : List ad}
theorem gl.OC {E' : Env} {a a0 : Act} {d : Nat} {v : Value} (h : gl C E' a0) (e : a.put (some d) v = a0.put (some d) v) : gl C (E'.del d) a := by
  have e1 : a.defers = a0.defers := (congrArg (fun z : Act => z.defers) e : (a.put (some d) v).defers = (a0.put (some d) v).defers)
  have e2 : a.tmps.setIfInBounds d v = a0.tmps.setIfInBounds d v := (congrArg (fun z : Act => z.tmps) e : (a.put (some d) v).tmps = (a0.put (some d) v).tmps)
  refine ⟨e1.trans h.defers, ?_, fun k u hk => ?_⟩
  · have := congrArg Array.size e2
    simp only [Array.size_setIfInBounds] at this
    exact this.trans h.size
  · obtain ⟨h1, h2⟩ := Env.va hk
    have h3 := h.get k u h2
    have h4 := congrArg (fun z : Array Value => z[k]?) e2
    rw [Array.getElem?_setIfInBounds_ne (fun e => h1 e.symm), Array.getElem?_setIfInBounds_ne (fun e => h1 e.symm)] at h4
    rw [h4]; exact h3
theorem nZ {P : Program} {w : World} {ops : Array Oper} {K K' : Act → Prop} (hK : ∀ a, K a → K' a) : ∀ (l : List Oper) (a : Act), wpStill P ops w K l a → wpStill P ops w K' l a
  | [], a, h => hK a h
  | x :: l, a, h => by
    unfold wpStill at h ⊢
    split
    · rename_i hw
      rw [if_pos hw] at h
      exact Oper.still_mono (fun a h => nZ hK l a h) h
    · rename_i hw
      rw [if_neg hw] at h
      exact nZ hK l _ h
theorem SB {id : Nat} {l : List Oper} (hm : C.P.follows .mixedOrders = true) (hB : PB l = true) (h : fK C l.toArray l.dropLast (ua C l Q) E L) : Wp C (.region id l.toArray true) Q E L := by
  intro a w ha hi
  unfold PB at hB
  simp only [Bool.and_eq_true] at hB
  obtain ⟨hB1, hB2⟩ := hB
  unfold Gt at hB2
  cases hl : l.getLast? with
  | none => rw [hl] at hB2; cases hB2
  | some o =>
    rw [hl] at hB2
    simp only [Bool.and_eq_true] at hB2
    obtain ⟨e1, e2⟩ := Hl hl
    rw [e2] at hB1
    have hB0 := hB1
    generalize hl0 : l.dropLast = l0 at *
    have hlen : l.length - 1 = l0.length := by rw [e1]; simp
    rw [hlen] at hB2
    unfold Bh at hB1
    simp only [Bool.and_eq_true] at hB1
    refine wp_region_any hm ?_
    have hh := h a { w with drawn := w.drawn + 1 } ha hi.drew
    have hs1 : wpStill C.P (l0 ++ [calm o]).toArray { w with drawn := w.drawn + 1 } (fun a => Qh C (ua C l Q) .normal a { w with drawn := w.drawn + 1 }) l0 a := by
      have : wpStill C.P (l0 ++ [o]).toArray { w with drawn := w.drawn + 1 } (fun a => Qh C (ua C l Q) .normal a { w with drawn := w.drawn + 1 }) l0 a := by rw [← e1]; exact hh
      exact oX (fun _ h => h) l0 a this
    have hs2 : wpStill C.P (l0 ++ [calm o]).toArray { w with drawn := w.drawn + 1 } (fun a => ∃ a0, a = a0.put o.dst undef ∧ Qh C (ua C l Q) .normal a0 { w with drawn := w.drawn + 1 }) (l0 ++ [calm o]) a :=
      np l0 [calm o] a (nZ (fun a h => Ay ⟨a, rfl, h⟩) l0 a hs1)
    have hlx := yY hB0
    simp only [Region.lexB, Bool.and_eq_true] at hlx
    have hS := wpAnyS_lex (md := .any) (ops := (l0 ++ [calm o]).toArray) hlx.1 (l0 ++ [calm o]) 0 (Array.replicate (l0 ++ [calm o]).toArray.size false) a (by simp) (by simpa using hlx.2) hs2
    have hA := FE (l0 := l0) (o := o) (w := { w with drawn := w.drawn + 1 }) (Q := Qh C Q) ?_ ?_ ?_ ?_ (l0 ++ [calm o]).length (Array.replicate (l0 ++ [calm o]).toArray.size false) a (by simp) (by simp) hS
    · rw [← e1] at hA
      have hsz : (l0 ++ [calm o]).length = l.toArray.size := by rw [e1]; simp
      rw [hsz] at hA
      have hsz2 : (l0 ++ [calm o]).toArray.size = l.toArray.size := by simpa using hsz
      rw [hsz2] at hA
      exact hA
    · intro e he hb
      have := (o6 hB1.2 (k := l0.length) (o := calm o) (by simp)).1 e he hb
      omega
    · intro k x hx e he hb
      have hk : k < l0.length := (List.getElem?_eq_some_iff.1 hx).1
      have := (o6 hB1.2 (k := k) (o := x) (by rw [List.getElem?_append_left hk]; exact hx)).1 e he hb
      omega
    · intro j hj
      have := List.all_eq_true.1 hB2.1 j (List.mem_range.2 hj)
      obtain ⟨e, he, h2⟩ := List.any_eq_true.1 this
      simp only [Bool.and_eq_true] at h2
      exact ⟨e, he, h2.1, Nat.eq_of_beq_eq_true h2.2⟩
    · rintro a1 ⟨a0, hp, E1, L1, g1, g2, g3⟩ K hK
      have fin : wpList C.P l.toArray (Qh C Q) [o] a1 { w with drawn := w.drawn + 1 } → if Region.wanted o (yielded (l0 ++ [o]).toArray a1.tmps) then (o.wp C.P a1 { w with drawn := w.drawn + 1 } K (Qh C Q) ∨ (o.asks C.P a1 { w with drawn := w.drawn + 1 } ∧ LetsOut (Qh C Q))) else K (a1.put o.dst undef) { w with drawn := w.drawn + 1 } := by
        intro h5
        rw [← e1]
        unfold wpList at h5
        split
        · rename_i hw
          rw [if_pos hw] at h5
          exact h5.imp (Oper.wp_mono (fun a w h => hK a w h)) (fun h => h)
        · rename_i hw
          rw [if_neg hw] at h5
          exact hK _ _ h5
      unfold ua at g3
      rw [hl] at g3
      simp only at g3
      cases hd : o.dst with
      | none =>
        rw [hd] at g3 hp
        have : a1 = a0 := hp
        subst this
        have := fin (g3 a1 _ g1 g2)
        rw [hd] at this
        exact this
      | some d =>
        rw [hd] at g3 hp
        have := fin (g3 a1 _ (g1.OC hp) g2)
        rw [hd] at this
        exact this
end
end Go.Sl
namespace Go.Sl
section
variable {C : Ctx} {Q : QT} {E : Env} {L : List ad} {ops : Array Oper} {rest : List Oper} {d : Nat} {ty : TypeId} {pos : String} {aft : Array Edge}
theorem qZ (l : List Int) (h : ∀ x ∈ l, 0 ≤ x ∧ x < 256) : (strOfNums l).data.toList.map (fun b => Value.int .u8 b.toNat) = l.map (Value.int .u8) := by
  unfold strOfNums
  simp only [List.map_map]
  refine List.map_congr_left fun x hx => ?_
  have := h x hx
  simp only [Function.comp_apply, UInt8.toNat_ofNat', Value.int.injEq, true_and]
  rw [Nat.mod_eq_of_lt (by omega)]
  omega
theorem Iw {l m : List Int} (hl : ∀ x ∈ l, 0 ≤ x ∧ x < 256) (hm : ∀ x ∈ m, 0 ≤ x ∧ x < 256) (h : strOfNums l = strOfNums m) : l = m := by
  have e := qZ l hl
  rw [h, qZ m hm] at e
  exact (List.map_inj_right (fun x y e => by cases e; rfl)).1 e.symm
theorem jm (l : List Int) : (strOfNums l).size = l.length := by simp [strOfNums, ByteArray.size]
theorem Bx {s x : Operand} {t tS e sz cJ n m cap : Nat} {p : Option Addr} {vs ws zs : List Value} {u : ByteArray} {F : List ad}
    (ht : sliceB C.P t = some (e, sz, cJ)) (hS : C.P.underlying tS = some .string) (hz : dH C.P e = some zs) (hs1 : sz = 1) (hby : Nat.ble 1 cJ = true)
    (hs : aq E s = some (.slice p n cap)) (hx : aq E x = some (.string u)) (hu : u.data.toList.map (fun b => Value.int .u8 b.toNat) = ws) (hum : u.size = m)
    (hL : iq L (Sl p n cap e sz vs) F) (hb : (n + m) * cJ ≤ 140737488355328) :
    kO C (.call ⟨.builtin .append, [s, x].toArray, #[t, tS]⟩) ty E L (fun v L' => ∃ p' cap', v = .slice p' (n + m) cap' ∧ L' = Sl p' (n + m) cap' e sz (vs ++ ws) :: F) := by
  intro d pos aft g a w K Qx ha hi hK
  obtain ⟨ht1, i, hi2, rfl, rfl⟩ := jP ht
  obtain ⟨i', z, hz1, hz2, hz3, hz4⟩ := kh hz
  rw [hi2] at hz1
  cases hz1
  have hby := Nat.le_of_ble_eq_true hby
  have hnm : n + m ≤ (n + m) * i.bytes := Nat.le_mul_of_pos_right _ hby
  have hsmall : n + m ≤ 140737488355328 := by omega
  have hwl : ws.length = m * i.size := by rw [← hu, hs1, Nat.mul_one, ← hum, List.length_map, Array.length_toList]; rfl
  obtain ⟨consts, hrun⟩ := ka (C := C) (ty := ty) (pos := pos) (aft := aft) (b := .append) (xs := [s, x]) (tys := #[t, tS]) (vs := [.slice p n cap, .string u]) (a := a) (by simp [ha.eval hs, ha.eval hx]) d g w
  suffices h : ∃ p' cap' w', (Builtin.append_ #[t, tS] ty #[.slice p n cap, .string u]).run C.P w = .ok (.slice p' (n + m) cap') w' ∧ Inv C.w0 (Sl p' (n + m) cap' e i.size (vs ++ ws) :: F) w' by
    obtain ⟨p', cap', w', hr, hi'⟩ := h
    unfold Oper.wp
    rw [hrun]
    simp only [builtin, Sem.run_bind, hr, Result.andThen_ok, Sem.run_pure]
    exact hK _ _ _ ⟨p', cap', rfl, rfl⟩ hi'
  have hfirst : ∀ w1 : World, (Builtin.firstCells i.size m (.string u)).run C.P w1 = .ok ws.toArray w1 := by
    intro w1
    have e0 : u.extract 0 m = u := by
      rw [← hum]
      exact ByteArray.extract_zero_size
    simp only [Builtin.firstCells, e0, Sem.run_pure]
    congr 1
    apply Array.ext'
    simp [← hu]
  have hall : ∀ y ∈ ws, y.oneCell' = true := fun y hy => by
    rw [← hu] at hy
    obtain ⟨b, _, rfl⟩ := List.mem_map.1 hy
    rfl
  have hgrow : ∀ (vs0 : List Value), vs0 = vs → n * i.size = vs.length → cap < n + m →
      (∀ w1 : World, (∀ q, w1.cell? q = w.cell? q) → (Builtin.firstCells i.size n (.slice p n cap)).run C.P w1 = .ok vs.toArray w1) →
      Inv C.w0 F w →
      ∃ p' cap' w', (Builtin.append_ #[t, tS] ty #[.slice p n cap, .string u]).run C.P w = .ok (.slice p' (n + m) cap') w' ∧ Inv C.w0 (Sl p' (n + m) cap' e i.size (vs ++ ws) :: F) w' := by
    intro vs0 _ hvl hlt hold hiF
    have hfit : Builtin.nextslicecap (n + m) cap * i.bytes ≤ 281474976710656 := growslice_fits hlt hb
    have h63 : ¬ (9223372036854775807 < ((n : Int) + (m : Int))) := by omega
    have h48 : ¬ (281474976710656 < Builtin.nextslicecap (n + m) cap * i.bytes) := by omega
    have hng : ¬ (n + m ≤ cap) := by omega
    refine ⟨some ⟨w.heap.size, 0, none⟩, grownCap w (n + m) cap e, w.drew.alloc (.cells (vs ++ ws ++ (Builtin.zeroCells z.cells (grownCap w (n + m) cap e - (n + m))).toList).toArray e), ?_, ?_⟩
    · have e1 := hold w.drew (fun q => by simp)
      have e2 := hfirst w.drew
      have harr : ∀ Z : Array Value, (vs ++ ws ++ Z.toList).toArray = vs.toArray ++ ws.toArray ++ Z := fun Z => by apply Array.ext'; simp
      rw [harr]
      simp [Builtin.append_, run_underlying ht1, run_underlying hS, sizeOf, typeInfo, zeroValue, hi2, hz2, Builtin.lenOf, hum, hng, h63, h48, Question.forced, e1, e2, newRow, grownCap]
      congr 1
      congr 1
      apply Array.ext'
      simp
    · have hge := grownCap_ge w (n + m) cap e
      refine Inv.imp ?_ (hiF.drew.alloc e (vs ++ ws ++ (Builtin.zeroCells z.cells (grownCap w (n + m) cap e - (n + m))).toList))
      intro h hc
      refine .inr ⟨_, 0, [], (Builtin.zeroCells z.cells (grownCap w (n + m) cap e - (n + m))).toList, rfl, by simpa using hc, rfl, ?_, ?_, hge⟩
      · simp [← hvl, hwl, Nat.add_mul]
      · have : z.cells.size = i.size := by rw [hz3, hz4]; simp
        simp [size_zeroCells, this]
  obtain ⟨zz, hzz, hi1⟩ := (hi.perm hL.perm).vC (Sl.open_ C.w0)
  cases zz with
  | none =>
    obtain ⟨rfl, rfl, rfl, rfl⟩ := hzz
    by_cases hm0 : m = 0
    · subst hm0
      simp at hwl
      subst hwl
      refine ⟨none, 0, w, ?_, (hi1.C3 e i.size)⟩
      have e1 := hfirst w
      simp [Builtin.append_, run_underlying ht1, run_underlying hS, sizeOf, typeInfo, hi2, Builtin.lenOf, hum, e1]
    · exact hgrow [] rfl (by simp) (by omega) (fun w1 _ => by simp [Builtin.firstCells]) hi1
  | some zz =>
    obtain ⟨b, o, pre, post⟩ := zz
    obtain ⟨rfl, e1, e2, e3, e4⟩ := hzz
    by_cases hroom : n + m ≤ cap
    · have hfit : o + n * i.size + ws.length ≤ (pre ++ vs ++ post).length := by
        have : (n + m - n) * i.size ≤ (cap - n) * i.size := Nat.mul_le_mul_right _ (by omega)
        rw [show n + m - n = m by omega] at this
        simp only [List.length_append, e1, e2, hwl]
        omega
      obtain ⟨w', hr, hi'⟩ := jA (C := C) ws (o + n * i.size) 0 _ _ w hall (by simpa using hfit) hi1
      refine ⟨some ⟨b, o, none⟩, cap, w', ?_, ?_⟩
      · have hf := hfirst w
        simp [Builtin.append_, run_underlying ht1, run_underlying hS, sizeOf, typeInfo, hi2, Builtin.lenOf, hum, hroom, hf, Addr.fX, hr]
      · refine Inv.cls (B := [ao b e (pre ++ (vs ++ ws) ++ post.drop ws.length)]) (fun h hc => Sl.mk hc e1 (by simp [e2, hwl, Nat.add_mul]) ?_ hroom) ?_
        · simp only [List.length_drop, hwl]
          have : (cap - (n + m)) * i.size = (cap - n) * i.size - m * i.size := by rw [← Nat.sub_mul]; congr 1; omega
          omega
        · have e5 : (pre ++ vs ++ post).take (o + n * i.size + 0) = pre ++ vs := by
            rw [Nat.add_zero]
            exact List.take_left' (by simp [e1, e2])
          have e6 : (pre ++ vs ++ post).drop (o + n * i.size + 0 + ws.length) = post.drop ws.length := by
            rw [Nat.add_zero, show o + n * i.size + ws.length = (pre ++ vs).length + ws.length by simp [e1, e2]]
            rw [← List.drop_drop, List.drop_left]
          rw [e5, e6] at hi'
          simpa [List.append_assoc] using hi'
    · refine hgrow vs rfl e2.symm (by omega) (fun w1 hw1 => ?_) hi1.tail
      refine run_firstCells_some (P := C.P) w1 i.size n _ n cap vs e2 (fun j v hj => ?_)
      have hlt := (List.getElem?_eq_some_iff.1 hj).1
      rw [hw1, Addr.fX, Inv.ji hi1]
      rw [List.append_assoc, List.getElem?_append_right (by omega), show o + j - pre.length = j by omega, List.getElem?_append_left hlt]
      exact hj
theorem sP {l m : List Int} (hl : ∀ x ∈ l, 0 ≤ x ∧ x < 256) (hm : ∀ x ∈ m, 0 ≤ x ∧ x < 256) (h : l ≠ m) : ((strOfNums l).toList == (strOfNums m).toList) = false := by
  refine beq_eq_false_iff_ne.2 fun e => h (Iw hl hm ?_)
  exact ByteArray.ext (Array.ext' (by rw [← ByteArray.toList_eq, ← ByteArray.toList_eq, e]))
end
end Go.Sl
namespace Go.Sl
section
variable {C : Ctx} {E0 : Env} {Q : QT} {L : List ad} {l : List Oper} {ts : List ef} {i : Nat} {c : ib} {op : Op} {os : List Oper} {ps : List eR} {f : Yv → Value} {K : ib → Prop} {A0 : List ad} {p : eR} {d : Option Nat} {ty : TypeId} {pos : String} {aft : Array Edge} {o : Oper}
theorem nV (h : ∀ y, (∀ j ∈ p.gB, dO c i j y) → ∀ L, cF C op ty (kX l E0 p i c y) L (f y) L) (r : iz C l E0 ts A0 (i + 1) (c.put f (fun _ => True)) os ps K)
    (hc : iH ts i = [] := by rfl) (hr : fu ts i = [] := by rfl) (hp : hG ts i = [] := by rfl) (hf : ∀ y v, f (eS y i v) = f y := by intros; rfl) (hl : Loc i p f := by intro y y2 h; rfl) : iz C l E0 ts A0 i c (⟨d, op, ty, pos, aft, none⟩ :: os) (p :: ps) K :=
  bU _ (fun y => rfl) hc hr hp (fun y hA L => dC (h y hA L) ⟨rfl, rfl⟩) hf hl r
theorem nR (h : ∀ y A, (∀ j ∈ p.gB, dO c i j y) → cF C op ty (kX l E0 p i c y) (fb (fu ts i) y ++ A) (f y) (fb (fu ts i) y ++ A)) (r : iz C l E0 ts A0 (i + 1) (c.put f (fun _ => True)) os ps K)
    (hc : iH ts i = [] := by rfl) (hp : hG ts i = [] := by rfl) (hf : ∀ y v, f (eS y i v) = f y := by intros; rfl) (hl : Loc i p f := by intro y y2 h; rfl) : iz C l E0 ts A0 i c (⟨d, op, ty, pos, aft, none⟩ :: os) (p :: ps) K :=
  jM _ _ (fun y => rfl) hc (fun y => rfl) hp (fun y A hA => dC (h y A hA) ⟨rfl, rfl⟩) hf hl r
theorem nE (h : ∀ y A, (∀ j ∈ p.gB, dO c i j y) → Step C l.toArray o (kX l E0 p i c y) (fb (iH ts i) y ++ (fb (fu ts i) y ++ A)) (fun v' L' => v' = f y ∧ L'.Perm (fb (hG ts i) y ++ (fb (fu ts i) y ++ A)))) (r : iz C l E0 ts A0 (i + 1) (c.put f (fun _ => True)) os ps K)
    (hf : ∀ y v, f (eS y i v) = f y := by intros; rfl) (hM : ∀ y v, fb (hG ts i) (eS y i v) = fb (hG ts i) y := by intros; rfl) (hl : Loc i p f := by intro y y2 h; rfl) : iz C l E0 ts A0 i c (o :: os) (p :: ps) K :=
  HU _ _ _ _ (fun y => rfl) (fun y => rfl) (fun y => rfl) (fun y => rfl) h hf hM hl r
end
def PN (m : Nat) : List Nat := (List.range 96).filter fun k => (m / 2 ^ k) % 2 == 1
end Go.Sl
namespace Go.Sl
theorem ln {E : Env} : Le [] E := .nil _
theorem kQ {E E2 : Env} {d0 : Nat} {v0 : Value} (l : Le E2 E) (h0 : E.get d0 = some v0 := by rfl) : Le ((d0, v0) :: E2) E := .cons h0 l
theorem kG {E E2 : Env} {d0 : Nat} {v0 : Value} {d1 : Nat} {v1 : Value} (l : Le E2 E) (h0 : E.get d0 = some v0 := by rfl) (h1 : E.get d1 = some v1 := by rfl) : Le ((d0, v0) :: (d1, v1) :: E2) E := .cons h0 (.cons h1 l)
theorem js {E E2 : Env} {d0 : Nat} {v0 : Value} {d1 : Nat} {v1 : Value} {d2 : Nat} {v2 : Value} (l : Le E2 E) (h0 : E.get d0 = some v0 := by rfl) (h1 : E.get d1 = some v1 := by rfl) (h2 : E.get d2 = some v2 := by rfl) : Le ((d0, v0) :: (d1, v1) :: (d2, v2) :: E2) E := .cons h0 (.cons h1 (.cons h2 l))
theorem fo {E E2 : Env} {d0 : Nat} {v0 : Value} {d1 : Nat} {v1 : Value} {d2 : Nat} {v2 : Value} {d3 : Nat} {v3 : Value} (l : Le E2 E) (h0 : E.get d0 = some v0 := by rfl) (h1 : E.get d1 = some v1 := by rfl) (h2 : E.get d2 = some v2 := by rfl) (h3 : E.get d3 = some v3 := by rfl) : Le ((d0, v0) :: (d1, v1) :: (d2, v2) :: (d3, v3) :: E2) E := .cons h0 (.cons h1 (.cons h2 (.cons h3 l)))
theorem dp {E E2 : Env} {d0 : Nat} {v0 : Value} {d1 : Nat} {v1 : Value} {d2 : Nat} {v2 : Value} {d3 : Nat} {v3 : Value} {d4 : Nat} {v4 : Value} (l : Le E2 E) (h0 : E.get d0 = some v0 := by rfl) (h1 : E.get d1 = some v1 := by rfl) (h2 : E.get d2 = some v2 := by rfl) (h3 : E.get d3 = some v3 := by rfl) (h4 : E.get d4 = some v4 := by rfl) : Le ((d0, v0) :: (d1, v1) :: (d2, v2) :: (d3, v3) :: (d4, v4) :: E2) E := .cons h0 (.cons h1 (.cons h2 (.cons h3 (.cons h4 l))))
theorem ar {A0 : ad} {M P F : List ad} (h : fJ M P F) : fJ (A0 :: M) (A0 :: P) F := .cons dQ h
theorem bF {A0 A1 : ad} {M P F : List ad} (h : fJ M P F) : fJ (A0 :: A1 :: M) (A0 :: A1 :: P) F := .cons dQ (.cons dQ h)
theorem gm {A0 A1 A2 : ad} {M P F : List ad} (h : fJ M P F) : fJ (A0 :: A1 :: A2 :: M) (A0 :: A1 :: A2 :: P) F := .cons dQ (.cons dQ (.cons dQ h))
theorem nH {A0 A1 A2 A3 : ad} {M P F : List ad} (h : fJ M P F) : fJ (A0 :: A1 :: A2 :: A3 :: M) (A0 :: A1 :: A2 :: A3 :: P) F := .cons dQ (.cons dQ (.cons dQ (.cons dQ h)))
theorem pF {A0 A1 A2 A3 A4 : ad} {M P F : List ad} (h : fJ M P F) : fJ (A0 :: A1 :: A2 :: A3 :: A4 :: M) (A0 :: A1 :: A2 :: A3 :: A4 :: P) F := .cons dQ (.cons dQ (.cons dQ (.cons dQ (.cons dQ h))))
theorem wI {n : Int} (h1 : -9223372036854775808 ≤ n := by omega) (h2 : n ≤ 9223372036854775807 := by omega) : IntKind.i64.wrap n = n := gF h1 h2
section
variable {C : Ctx} {Q : QT} {E E0 : Env} {L : List ad} {ty : TypeId}
theorem xI {α : Type} {c : Ec α} {x ix : Operand} {t cJ n cap : Nat} {p : Option Addr} {k : IntKind} {i : Int} {l : List α} (ht : sliceB C.P t = some (c.T, c.sz, cJ)) (H : Has C.w0 L c p n l) (h : aq E x = some (.slice p n cap) := by rfl) (hi : aq E ix = some (.int k i) := by rfl) (h0 : 0 ≤ i := by omega) (hlt : i < n := by omega) :
    cF C (.indexAddr t x ix) ty E L (.pointer (some ⟨kL p, pA p + i.toNat * c.sz, none⟩)) L := zN ht h hi H h0 hlt
theorem xL {α : Type} {c : Ec α} {v : Value} {x : Operand} {t n : Nat} {p : Option Addr} {i : Int} {l : List α} (hs : dq C.P t = true) (H : Has C.w0 L c p n l) (hx : aq E x = some (.pointer (some ⟨kL p, pA p + i.toNat * c.sz, none⟩)) := by rfl) (h0 : 0 ≤ i := by omega) (hlt : i < n := by omega) (hf : Nat.blt 0 c.sz = true := by rfl) (hv : (c.e (c.g l i))[0]? = some v := by rfl) : cF C (.load t x) ty E L v L := JR hs hx H h0 hlt hf hv
variable {l : List Oper} {ts : List ef} {i : Nat} {c : ib} {op : Op} {os : List Oper} {ps : List eR} {f : Yv → Value} {K : ib → Prop} {A0 : List ad} {p : eR} {d : Option Nat} {pos : String} {aft : Array Edge} {o : Oper} {x : Operand}
theorem nM (r : iz C l E0 ts A0 (i + 1) (c.put f (fun _ => True)) os ps K) (h : ∀ y, aq (kX l E0 p i c y) x = some (f y) := by intro y; rfl)
    (hc : iH ts i = [] := by rfl) (hr : fu ts i = [] := by rfl) (hp : hG ts i = [] := by rfl) (hf : ∀ y v, f (eS y i v) = f y := by intros; rfl) (hl : Loc i p f := by intro y y2 h; rfl) : iz C l E0 ts A0 i c (⟨d, .move x, ty, pos, aft, none⟩ :: os) (p :: ps) K :=
  nV (fun y hA L => aK (h y)) r hc hr hp hf hl
theorem nA (r : iz C l E0 ts A0 (i + 1) (c.put f (fun _ => True)) os ps K) (h : ∀ y, aq (kX l E0 p i c y) x = some (f y) := by intro y; rfl)
    (hc : iH ts i = [] := by rfl) (hr : fu ts i = [] := by rfl) (hp : hG ts i = [] := by rfl) (hf : ∀ y v, f (eS y i v) = f y := by intros; rfl) (hl : Loc i p f := by intro y y2 h; rfl) : iz C l E0 ts A0 i c (⟨d, .assign x, ty, pos, aft, none⟩ :: os) (p :: ps) K :=
  nV (fun y hA L => eZ (h y)) r hc hr hp hf hl
theorem nN {q : Yv → Addr} (r : iz C l E0 ts A0 (i + 1) (c.put (fun y => .pointer (some (q y))) (fun _ => True)) os ps K) (h : ∀ y, aq (kX l E0 p i c y) x = some (.pointer (some (q y))) := by intro y; rfl)
    (hc : iH ts i = [] := by rfl) (hr : fu ts i = [] := by rfl) (hp : hG ts i = [] := by rfl) (hf : ∀ y v, Value.pointer (some (q (eS y i v))) = .pointer (some (q y)) := by intros; rfl) (hl : Loc i p (fun y => Value.pointer (some (q y))) := by intro y y2 h; rfl) : iz C l E0 ts A0 i c (⟨d, .nilCheck x, ty, pos, aft, none⟩ :: os) (p :: ps) K :=
  nV (fun y hA L => Az (h y)) r hc hr hp hf hl
theorem nG {s fd o b q : Nat} (ht : cy C.P s fd = some o) (r : iz C l E0 ts A0 (i + 1) (c.put (fun y => .pointer (some ⟨b, q + o, none⟩)) (fun _ => True)) os ps K) (h : ∀ y, aq (kX l E0 p i c y) x = some (.pointer (some ⟨b, q, none⟩)) := by intro y; rfl)
    (hc : iH ts i = [] := by rfl) (hr : fu ts i = [] := by rfl) (hp : hG ts i = [] := by rfl) : iz C l E0 ts A0 i c (⟨d, .fieldAddr s x fd, ty, pos, aft, none⟩ :: os) (p :: ps) K :=
  nV (fun y hA L => aE ht (h y)) r hc hr hp (fun _ _ => rfl) (fun _ _ _ => rfl)
theorem wN {id : Nat} (ps : List eR) (ts : List ef) (A : List ad) (hm : C.P.follows .mixedOrders = true) (how : iz C l E0 ts A 0 ⟨[], []⟩ l ps (fun c => ∀ y, (∀ j, j < l.length → dO c l.length j y) → Q .normal (sa l l.length c y l.length E0) (fb (uB ts) y ++ A)))
    (hB : xb C l ps ts = true := by kernel_rfl) (hps : ps.length = l.length := by rfl) (h0 : ∀ y, L.Perm (fb (pU ts) y ++ A) := by exact fun _ => .refl _) (hl : sH ps ts := by repeat first | exact ir | refine cn _ ?_ | refine eB _ rfl (by intro y y2 h; rfl) ?_) (hX : ∀ ch E L, C.X ch L → Q (.panic ch) E L := by exact fun _ _ _ h => h) : Wp C (.region id l.toArray true) Q E0 L :=
  ly ps ts A hm hB hps h0 hl how hX
end
section
variable {C : Ctx} {Q : QT} {E : Env} {L L' : List ad} {ops : Array Oper} {rest : List Oper} {d : Nat} {ty : TypeId} {pos : String} {aft : Array Edge} {op : Op} {v : Value}
theorem oV (h : cF C op ty E L v L') (k : dM C ops rest Q ((d, v) :: E) L') (hd : Nat.blt d C.n = true := by rfl) : dM C ops (⟨some d, op, ty, pos, aft, none⟩ :: rest) Q E L := tC h hd k
theorem oR (h : cF C op ty E L v L) (k : fK C ops rest Q ((d, v) :: E) L) (hd : Nat.blt d C.n = true := by rfl) (hk : Gm op v = true := by rfl) : fK C ops (⟨some d, op, ty, pos, aft, none⟩ :: rest) Q E L := Rg.tC h hd hk k
end
abbrev pz (m : Nat) (d s : List Nat) : eR := ⟨PN m, d, s, 0, 0⟩
theorem Si : True := by
  have := @Hh
  have := @nV
  have := @nR
  have := @nE
  have := @ln
  have := @kQ
  have := @kG
  have := @js
  have := @fo
  have := @dp
  have := @ar
  have := @bF
  have := @gm
  have := @nH
  have := @pF
  have := @wI
  have := @xI
  have := @xL
  have := @nM
  have := @nA
  have := @nN
  have := @nG
  have := @wN
  have := @oV
  have := @oR
  trivial
end Go.Sl
namespace Go.Sl
section
variable {α β : Type}
def xJ (c : Ec α) (p : Option Addr) (n : Nat) (l : List α) : ad := fun w0 h => l.length = n ∧ (n = 0 ∨ ∃ b o cs T fr, p = some ⟨b, o, none⟩ ∧ h b = some (.cells cs T fr) ∧ ∀ (i : Nat) v, (l.flatMap c.e)[i]? = some v → cs[o + i]? = some v)
theorem xJ.rd {c : Ec α} {p : Option Addr} {n : Nat} {l : List α} {w0 : World} {h : Hp} (hh : xJ c p n l w0 h) : aS c p n l w0 h := by
  obtain ⟨h1, h2⟩ := hh
  refine ⟨h1, by rw [gx, h1], ?_⟩
  rcases h2 with h2 | ⟨b, o, cs, T, fr, e1, e2, e3⟩
  · exact .inl h2
  · refine .inr ⟨b, o, e1, fun i v hv => ?_⟩
    unfold pq
    rw [e2]
    simpa using e3 i v hv
theorem xJ.mono {c : Ec α} {p : Option Addr} {n : Nat} {l : List α} {w0 : World} {h h' : Hp} (hh : xJ c p n l w0 h) (hl : Hp.le h h') : xJ c p n l w0 h' := by
  obtain ⟨h1, h2⟩ := hh
  refine ⟨h1, ?_⟩
  rcases h2 with h2 | ⟨b, o, cs, T, fr, e1, e2, e3⟩
  · exact .inl h2
  · exact .inr ⟨b, o, cs, T, fr, e1, hl _ _ e2, e3⟩
theorem Row.Bv {c : Ec α} {p : Option Addr} {n cap : Nat} {l : List α} {w0 : World} {h : Hp} (hr : Row c p n cap l w0 h) : xJ c p n l w0 h := by
  obtain ⟨h1, h2⟩ := hr
  refine ⟨h1, ?_⟩
  rcases h2 with ⟨rfl, rfl, rfl, _⟩ | ⟨b, o, pre, post, rfl, ⟨_, e1⟩, e2, e3, _, _⟩
  · exact .inl rfl
  · refine .inr ⟨b, o, _, _, _, rfl, e1, fun i v hv => ?_⟩
    have hlt := (List.getElem?_eq_some_iff.1 hv).1
    rw [List.getElem?_toArray, List.append_assoc, List.getElem?_append_right (by omega), show o + i - pre.length = i by omega, List.getElem?_append_left hlt]
    exact hv
def Dq (c : Ec α) (f : β → Option Addr × List α) (l : List β) : ad := fun w0 h => ∀ x ∈ l, xJ c (f x).1 (f x).2.length (f x).2 w0 h
theorem zZ (c : Ec α) (f : β → Option Addr × List α) (w0 : World) (h : Hp) : Dq c f [] w0 h := fun x hx => by cases hx
theorem ob {c : Ec α} {f : β → Option Addr × List α} {l : List β} {x : β} {p : Option Addr} {n cap : Nat} {d : List α} {w0 : World} {h : Hp} (hx : f x = (p, d)) (hh : dk w0 [Dq c f l, Row c p n cap d] h) : Dq c f (l ++ [x]) w0 h := by
  obtain ⟨h1, h2, _, l1, l2, a, h3, h4, _, l3, l4, b, _⟩ := hh
  intro y hy
  rcases List.mem_append.1 hy with hy | hy
  · exact (a y hy).mono l1
  · rw [List.mem_singleton.1 hy, hx]
    have hb : d.length = n := b.1
    have := (Row.Bv b).mono (Hp.le_trans l3 l2)
    rw [← hb] at this
    exact this
theorem M6 {w0 : World} {L : List ad} {c : Ec α} {f : β → Option Addr × List α} {l : List β} {x : β} (hm : Dq c f l ∈ L) (hx : x ∈ l) : Has w0 L c (f x).1 (f x).2.length (f x).2 := ⟨_, hm, fun h hh => (hh x hx).rd⟩
end
end Go.Sl
namespace Go.Sl
section
variable {C : Ctx} {Q : QT} {E : Env} {L F : List ad} {ops : Array Oper} {rest : List Oper} {d : Nat} {ty : TypeId} {pos : String} {aft : Array Edge}
theorem Jc {x y : Operand} {dt st elem cJ b o dn dc sn sc T n : Nat} {p2 : Option Addr} {vs ws pre post : List Value} {R : ad}
    (ht : sliceB C.P dt = some (elem, 1, cJ)) (hd : aq E x = some (.slice (some ⟨b, o, none⟩) dn dc)) (hs : aq E y = some (.slice p2 sn sc))
    (hL : iq L (ao b T (pre ++ vs ++ post)) F) (hm : R ∈ F) (hR : ∀ h, R C.w0 h → Rd p2 n 1 ws C.w0 h) (ho : pre.length = o) (hn : n = min sn dn) (hv : vs.length = n) (h1 : ws.all Value.oneCell' = true) :
    kO C (.call ⟨.builtin .copy, [x, y].toArray, #[dt, st]⟩) ty E L (fun v L' => v = .int .i64 n ∧ L' = ao b T (pre ++ ws ++ post) :: F) := by
  intro d pos aft g a w K Qx ha hi hK
  obtain ⟨ht1, i, hi2, hsz, _⟩ := jP ht
  have hi1 := hi.perm hL.perm
  obtain ⟨hwl, hwc⟩ := hi1.tail.rd hm hR
  obtain ⟨consts, hrun⟩ := ka (C := C) (ty := ty) (pos := pos) (aft := aft) (b := .copy) (xs := [x, y]) (tys := #[dt, st]) (vs := [.slice (some ⟨b, o, none⟩) dn dc, .slice p2 sn sc]) (a := a) (by simp [ha.eval hd, ha.eval hs]) d g w
  suffices h : ∃ w', (Builtin.copy_ #[dt, st] ty #[.slice (some ⟨b, o, none⟩) dn dc, .slice p2 sn sc]).run C.P w = .ok (.int .i64 n) w' ∧ Inv C.w0 (ao b T (pre ++ ws ++ post) :: F) w' by
    obtain ⟨w', hr, hi'⟩ := h
    unfold Oper.wp
    rw [hrun]
    simp only [builtin, Sem.run_bind, hr, Result.andThen_ok, Sem.run_pure]
    exact hK _ _ _ ⟨rfl, rfl⟩ hi'
  have hfirst : (Builtin.firstCells 1 n (.slice p2 sn sc)).run C.P w = .ok ws.toArray w := by
    by_cases hm0 : n = 0
    · subst hm0
      have hw0 : ws = [] := List.length_eq_zero_iff.1 (by omega)
      subst hw0
      cases p2 <;> simp [Builtin.firstCells, loadCells, loadCellsFrom]
    · rcases hwc with hwc | ⟨b2, o2, rfl, hc⟩
      · exact absurd hwc hm0
      · exact run_firstCells_some (P := C.P) w 1 n _ sn sc ws hwl (fun j v hj => by rw [Addr.fX]; exact hc j v hj)
  have hall : ∀ u ∈ ws, u.oneCell' = true := fun u hu => by simpa using List.all_eq_true.1 h1 u hu
  have hwn : ws.length = n := by omega
  have hfit : o + ws.length ≤ (pre ++ vs ++ post).length := by simp only [List.length_append]; omega
  obtain ⟨w', hr, hi'⟩ := jA (C := C) ws o 0 _ _ w hall (by simpa using hfit) hi1
  refine ⟨w', ?_, ?_⟩
  · have hmin : Nat.min sn dn = n := by rw [hn]
    simp [Builtin.copy_, run_underlying ht1, sizeOf, typeInfo, hi2, hsz, Builtin.lenOf, hmin, hfirst, hr, goInt]
  · have e5 : (pre ++ vs ++ post).take (o + 0) = pre := by
      rw [Nat.add_zero, List.append_assoc]
      exact List.take_left' ho
    have e6 : (pre ++ vs ++ post).drop (o + 0 + ws.length) = post := by
      rw [Nat.add_zero, show o + ws.length = (pre ++ vs).length by simp; omega, List.drop_left]
    rw [e5, e6] at hi'
    exact hi'
theorem Ke {α : Type} {c : Ec α} {x y : Operand} {dt st cJ dn dc sn sc n cap k m cnt : Nat} {p p2 : Option Addr} {l ws : List α}
    (hsz : c.sz = 1) (ht : sliceB C.P dt = some (c.T, c.sz, cJ)) (hd : aq E x = some (.slice (eo p k m 1) dn dc)) (hs : aq E y = some (.slice p2 sn sc)) (hL : iq L (Row c p n cap l) F) (H : Has C.w0 F c p2 cnt ws) (hc : cnt = min sn dn) (hk : k + cnt ≤ n) (hkm : k < m) (h0 : 0 < n) :
    kO C (.call ⟨.builtin .copy, [x, y].toArray, #[dt, st]⟩) ty E L (fun v L' => v = .int .i64 cnt ∧ L' = Row c p n cap (l.take k ++ ws ++ l.drop (k + cnt)) :: F) := by
  intro d pos aft g a w K Qx ha hi hK
  have hi1 := hi.perm hL.perm
  have hlen : l.length = n := ((own (w0 := C.w0) (L := Row c p n cap l :: F) an).fact hi1).1
  obtain ⟨R, hm, hR⟩ := H
  have hwl : ws.length = cnt := (Has.fact ⟨R, hm, hR⟩ hi1.tail).1
  obtain ⟨zz, hzz, hi2⟩ := Inv.vC (Sl.open_ C.w0) (hi1.imp (fun h hh => hh.2))
  cases zz with
  | none => obtain ⟨_, h1, _⟩ := hzz; omega
  | some zz =>
    obtain ⟨b, o, pre, post⟩ := zz
    obtain ⟨rfl, e1, e2, e3, e4⟩ := hzz
    have hfl := gx c l
    rw [hsz] at hfl e2 e3
    have hsp : eo (some ⟨b, o, none⟩) k m 1 = some ⟨b, o + k, none⟩ := by
      unfold eo
      rw [if_neg (by omega)]
      simp [Addr.fX]
    have hcells : l.flatMap c.e = (l.take k).flatMap c.e ++ ((l.drop k).take cnt).flatMap c.e ++ (l.drop (k + cnt)).flatMap c.e := by
      rw [← List.flatMap_append, ← List.flatMap_append]
      congr 1
      rw [List.append_assoc, ← List.drop_drop, List.take_append_drop, List.take_append_drop]
    have hi3 : Inv C.w0 (ao b c.T ((pre ++ (l.take k).flatMap c.e) ++ ((l.drop k).take cnt).flatMap c.e ++ ((l.drop (k + cnt)).flatMap c.e ++ post)) :: F) w := by
      have := hi2
      rw [hcells] at this
      simpa [List.append_assoc] using this
    have l1 : ((l.take k).flatMap c.e).length = k := by rw [gx, hsz, List.length_take]; omega
    have l2 : (((l.drop k).take cnt).flatMap c.e).length = cnt := by rw [gx, hsz, List.length_take, List.length_drop]; omega
    refine Jc (C := C) (E := E) (ty := ty) (st := st) (o := o + k) (vs := ((l.drop k).take cnt).flatMap c.e) (ws := ws.flatMap c.e) (n := cnt) (R := R) (by rw [← hsz]; exact ht) (by rw [hd, hsp]) hs iq.head hm (fun h hh => by have := (hR h hh).2; rwa [hsz] at this) (by simp only [List.length_append]; omega) hc l2 (o1 c ws) d pos aft g a w K Qx ha hi3 ?_
    rintro v L' w' ⟨e5, e6⟩ hi'
    subst e6
    refine hK v _ w' ⟨e5, rfl⟩ ?_
    refine Inv.cls (B := [ao b c.T (pre ++ (l.take k ++ ws ++ l.drop (k + cnt)).flatMap c.e ++ post)]) (fun h hc2 => ⟨by simp only [List.length_append, List.length_take, List.length_drop]; omega, Sl.mk hc2 e1 (by rw [gx, hsz]; simp only [List.length_append, List.length_take, List.length_drop]; omega) (by rw [hsz]; exact e3) e4⟩) ?_
    simpa [List.flatMap_append, List.append_assoc] using hi'
theorem sg (T : TypeId) (k : IntKind) : ∀ l : List Int, l.flatMap (aP T k).e = l.map (Value.int k)
  | [] => rfl
  | a :: l => by
    have ih := sg T k l
    simp only [List.flatMap_cons, List.map_cons, ih]
    rfl
theorem Ry {w0 : World} {b T T' : Nat} {k : IntKind} {xs : List Int} (hm : ao b T (CA [] k xs []) ∈ L) : Has w0 L (aP T' k) (some ⟨b, 0, none⟩) xs.length xs := by
  refine ⟨_, hm, fun h hh => ⟨rfl, by rw [gx], .inr ⟨b, 0, rfl, fun i v hv => ?_⟩⟩⟩
  obtain ⟨_, hb⟩ : ∃ e, h b = some (.cells (CA [] k xs []).toArray T (Mk e _)) := hh
  unfold pq
  rw [hb]
  rw [sg] at hv
  simpa [CA, ints] using hv
end
end Go.Sl

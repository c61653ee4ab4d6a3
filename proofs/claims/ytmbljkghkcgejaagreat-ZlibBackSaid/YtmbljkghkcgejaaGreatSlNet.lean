/- Walks of functions that the law reaches, and what they lean on; no conditions. -/
import Derived.Test.YtmbljkghkcgejaaGreatSl12
set_option linter.unusedVariables false
set_option linter.unusedSimpArgs false
set_option maxRecDepth 100000
namespace Go.Sl
open Go.RowKit (Below)
structure aZ where
 a : Yv → ae
 by_ : Option Nat
 use : Option Nat
 rd : List Nat
def iL (o : Option Nat) (i : Nat) : Bool := match o with | some j => Nat.beq j i | none => false
theorem ov {o : Option Nat} {i : Nat} : iL o i = true ↔ o = some i := by
 unfold iL
 cases o with
 | none => simp
 | some j =>
  constructor
  ·intro h; rw [Nat.eq_of_beq_eq_true h]
  ·intro h; cases h; exact Nat.beq_refl _
def ie (ts : List aZ) (i : Nat) : List aZ := ts.filter fun t => iL t.use i
def e9 (ts : List aZ) (i : Nat) : List aZ := ts.filter fun t => mem i t.rd
def gT (ts : List aZ) (i : Nat) : List aZ := ts.filter fun t => iL t.by_ i
def tU (ts : List aZ) : List aZ := ts.filter fun t => t.use.isNone
def p9 (ts : List aZ) : List aZ := ts.filter fun t => t.by_.isNone
def eQ (ts : List aZ) (y : Yv) : List ae := ts.map fun t => t.a y
def gO (listed : Array Bool) (t : aZ) : Bool :=
 (match t.by_ with | some p => listed.getD p false | none => true) && (match t.use with | some c => !(listed.getD c false) | none => true)
def tL (ps : List et) (t : aZ) (i : Nat) : Bool := match t.by_ with | some p => mem p (eS ps i) | none => true
def jt (ps : List et) (n : Nat) (t : aZ) : Bool :=
 (match t.use with | some c => tL ps t c && Nat.blt c n | none => true) && (match t.by_ with | some p => Nat.blt p n | none => true) &&
 t.rd.all (fun i => tL ps t i && Nat.blt i n && (match t.use with | some c => mem i (eS ps c) | none => true))
def M6 (C : Ctx) (l : List Oper) (ps : List et) (i : Nat) : Bool := xY C l ps [] i
def wJ (C : Ctx) (l : List Oper) (ps : List et) (ts : List aZ) : Bool := (List.range l.length).all (xY C l ps []) && ts.all (jt ps l.length)
structure iu (ps : List et) (n : Nat) (t : aZ) : Prop where
 use : ∀ c, t.use = some c → c < n ∧ ∀ p, t.by_ = some p → p ∈ eS ps c
 by_ : ∀ p, t.by_ = some p → p < n
 rd : ∀ i, i ∈ t.rd → (∀ p, t.by_ = some p → p ∈ eS ps i) ∧ i < n ∧ ∀ c, t.use = some c → i ∈ eS ps c
theorem Bz {ps : List et} {n : Nat} {t : aZ} (h : jt ps n t = true) : iu ps n t := by
 unfold jt at h
 simp only [Bool.and_eq_true] at h
 obtain ⟨⟨h1, h2⟩, h3⟩ := h
 have ah : ∀ i, tL ps t i = true → ∀ p, t.by_ = some p → p ∈ eS ps i := by
  intro i hi p hp
  unfold tL at hi
  rw [hp] at hi
  exact mem_iff.1 hi
 refine ⟨fun c hc => ?_, fun p hp => ?_, fun i hi => ?_⟩
 ·rw [hc] at h1
  simp only [Bool.and_eq_true] at h1
  exact ⟨fM h1.2, ah c h1.1⟩
 ·rw [hp] at h2; exact fM h2
 ·have := List.all_eq_true.1 h3 i hi
  simp only [Bool.and_eq_true] at this
  refine ⟨ah i this.1.1, fM this.1.2, fun c hc => ?_⟩
  have h4 := this.2
  rw [hc] at h4
  exact mem_iff.1 h4
theorem ly {α : Type} (p : α → Bool) (l : List α) : l.Perm (l.filter p ++ l.filter (fun x => !p x)) := (List.filter_append_perm p l).symm
section
variable {C : Ctx} {l : List Oper} {E0 : Env} {ps : List et} {ts : List aZ} {Φ : Nat → Yv → Prop} {A : List ae}
structure KJ (C : Ctx) (l : List Oper) (E0 : Env) (ps : List et) (ts : List aZ) (Φ : Nat → Yv → Prop) (A : List ae) (listed : Array Bool) (a : Act) (w : World) (y : Yv) : Prop where
 size : listed.size = l.length
 wz : ∀ i, done listed i → ∀ j ∈ eS ps i, done listed j
 defers : a.defers = C.D
 tp : a.tmps.size = C.n
 Bi : ∀ i, done listed i → ∀ t, ew l i = some t → a.tmps[t]? = some (y i)
 AE : ∀ s v, E0.get s = some v → (∀ j, done listed j → ew l j ≠ some s) → a.tmps[s]? = some v
 Gk : ∀ i, done listed i → Φ i y
 inv : Inv C.w0 (eQ (ts.filter (gO listed)) y ++ A) w
def Ji (C : Ctx) (l : List Oper) (E0 : Env) (ps : List et) (ts : List aZ) (A0 : List ae) (Φ : Nat → Yv → Prop) (i : Nat) : Prop :=
 ∀ o p, l[i]? = some o → ps[i]? = some p → ∀ y M, (∀ j ∈ p.gq, Φ j y) →
  Step C l.toArray o (rD l E0 p y) (eQ (ie ts i) y ++ (eQ (e9 ts i) y ++ (M ++ A0))) (fun v L' => Φ i (eu y i v) ∧ L'.Perm (eQ (gT ts i) (eu y i v) ++ (eQ (e9 ts i) y ++ (M ++ A0))))
theorem BN (hok : ∀ i, i < l.length → ∃ o p, l[i]? = some o ∧ ps[i]? = some p ∧ vu C l ps [] i o p) (htok : ∀ t ∈ ts, iu ps l.length t) (hlen : ps.length = l.length)
  (hobl : ∀ i, i < l.length → Ji C l E0 ps ts A Φ i) (hloc : ∀ i y y', (∀ j, j = i ∨ j ∈ eS ps i → y j = y' j) → Φ i y → Φ i y')
  (hlocT : ∀ t ∈ ts, ∀ y y' : Yv, (∀ p, t.by_ = some p → ∀ j, j = p ∨ j ∈ eS ps p → y j = y' j) → t.a y = t.a y')
  {Q : Exit → Act → World → Prop} (hX : ∀ ch E L a w, gf C E a → Inv C.w0 L w → C.X ch L → Q (.panic ch) a w) (hQ : ∀ a w y, (∀ i, i < l.length → Φ i y) → a.defers = C.D → a.tmps.size = C.n → (∀ i, i < l.length → ∀ t, ew l i = some t → a.tmps[t]? = some (y i)) →
   (∀ s v, E0.get s = some v → (∀ j, ew l j ≠ some s) → a.tmps[s]? = some v) → Inv C.w0 (eQ (tU ts) y ++ A) w → Q .normal a w) :
  ∀ (fuel : Nat) (listed : Array Bool) (a : Act) (w : World) (y : Yv), KJ C l E0 ps ts Φ A listed a w y →
   ((List.range l.length).filter fun i => !listed.getD i true).length ≤ fuel → wpAny C.P .any l.toArray Q fuel listed a w := by
 have fin : ∀ (listed : Array Bool) (a : Act) (w : World) (y : Yv), KJ C l E0 ps ts Φ A listed a w y → Region.ready .any l.toArray listed = [] → Q .normal a w := by
  intro listed a w y hinv hr
  have hall : ∀ i, i < l.length → done listed i := by
   intro i
   induction i using Nat.strongRecOn with
   | _ i ih =>
    intro hi
    obtain ⟨o, p, ho, hp, ok⟩ := hok i hi
    have hlt : i < listed.size := by rw [hinv.size]; exact hi
    cases hd : listed.getD i true with
    | true => unfold done; simp [hlt] at hd ⊢; exact hd
    | false =>
     exfalso
     have : i ∈ Region.ready .any l.toArray listed := mem_ready.2 ⟨hd, o, by simpa using ho, fun e he hb => ?_⟩
     ·rw [hr] at this; cases this
     ·have hj : e.on ∈ mh o := List.mem_filterMap.2 ⟨e, by simpa using he, by simp [hb]⟩
      have hlt2 := ok.LN _ hj
      exact ih e.on hlt2 (by omega)
  have hlive : ts.filter (gO listed) = tU ts := by
   unfold tU
   apply List.filter_congr
   intro t ht
   have hk := htok t ht
   unfold gO
   have h1 : (match t.by_ with | some p => listed.getD p false | none => true) = true := by
    split
    ·rename_i p hp; exact hall p (hk.by_ p hp)
    ·rfl
   rw [h1, Bool.true_and]
   split
   ·rename_i c hc
    rw [show listed.getD c false = true from hall c (hk.use c hc).1, hc]
    rfl
   ·rename_i hc; rw [hc]; rfl
  have hi := hinv.inv
  rw [hlive] at hi
  exact hQ a w y (fun i hi => hinv.Gk i (hall i hi)) hinv.defers hinv.tp (fun i hi => hinv.Bi i (hall i hi)) (fun s v hs hne => hinv.AE s v hs (fun j _ => hne j)) hi
 intro fuel
 induction fuel with
 | zero =>
  intro listed a w y hinv hn
  have hr : Region.ready .any l.toArray listed = [] := by
   apply List.eq_nil_iff_forall_not_mem.2
   intro i hi
   obtain ⟨h1, o, ho, _⟩ := mem_ready.1 hi
   have hlt : i < l.length := by
    have : l[i]? = some o := by simpa using ho
    exact (List.getElem?_eq_some_iff.1 this).1
   have : i ∈ ((List.range l.length).filter fun i => !listed.getD i true) := List.mem_filter.2 ⟨List.mem_range.2 hlt, by simp only [h1]; rfl⟩
   have h0 := List.eq_nil_of_length_eq_zero (Nat.le_zero.1 hn)
   rw [h0] at this
   cases this
  exact ⟨hr, fin listed a w y hinv hr⟩
 | succ fuel ih =>
  intro listed a w y hinv hn
  refine ⟨fin listed a w y hinv, fun i hi => ?_⟩
  have hlt : i < l.length := by
   obtain ⟨h1, o, ho, _⟩ := mem_ready.1 hi
   have : l[i]? = some o := by simpa using ho
   exact (List.getElem?_eq_some_iff.1 this).1
  obtain ⟨o, p, ho, hp, ok⟩ := hok i hlt
  obtain ⟨hun, hb⟩ := yp ho hi
  have hnd : ¬ done listed i := fun h => by unfold done at h; rw [qN hun] at h; cases h
  have hpa : eS ps i = p.gq := by simp [eS, hp]
  have hanc : ∀ j ∈ p.gq, done listed j := by
   intro j hj
   rcases (ok.gq j hj).2 with h | ⟨k, hk, h⟩
   ·exact hb j h
   ·exact hinv.wz k (hb k hk) j h
  have hancn : ∀ j, done listed j → i ∉ eS ps j := fun j hj hm => hnd (hinv.wz j hj i hm)
  have hself : ∀ j, done listed j → j ≠ i := fun j hj e => hnd (e ▸ hj)
  have hagr : gf C (rD l E0 p y) a := by
   refine ⟨hinv.defers, hinv.tp, fun d v hd => ?_⟩
   have hm := Env.get_mem hd
   unfold rD at hm
   rcases List.mem_append.1 hm with h | h
   ·obtain ⟨j, hj, hj2⟩ := List.mem_filterMap.1 h
    split at hj2
    ·rename_i t ht
     cases hj2
     exact hinv.Bi j (hanc j (ok.iS j hj)) d ht
    ·cases hj2
   ·obtain ⟨s, hs, hs2⟩ := List.mem_filterMap.1 h
    split at hs2
    ·rename_i u hu
     cases hs2
     refine hinv.AE d v hu (fun j hj e => ?_)
     rcases ok.mb d hs j e with h | h
     ·exact hself j hj h
     ·exact hnd (hinv.wz j hj i h)
    ·cases hs2
  have hdst : ew l i = o.dst := by simp [ew, ho]
  have hilt : i < listed.size := by rw [hinv.size]; exact hlt
  have hset : ∀ j d, (listed.setIfInBounds i true).getD j d = if j = i then true else listed.getD j d := by
   intro j d
   by_cases hij : i = j
   ·subst hij; simp [hilt]
   ·rw [getD_set_ne d hij, if_neg (fun e => hij e.symm)]
  have hdone' : ∀ j, done (listed.setIfInBounds i true) j ↔ j = i ∨ done listed j := by
   intro j
   unfold done
   rw [hset]
   by_cases e : j = i <;> simp [e]
  have hcnt : ((List.range l.length).filter fun j => !(listed.setIfInBounds i true).getD j true).length ≤ fuel := by
   have hsub : ((List.range l.length).filter fun j => !(listed.setIfInBounds i true).getD j true) = ((List.range l.length).filter fun j => !listed.getD j true).filter (fun j => !(j == i)) := by
    rw [List.filter_filter]
    apply List.filter_congr
    intro j _
    rw [hset]
    by_cases e : j = i
    ·subst e; simp
    ·simp [e]
   have hmem : i ∈ ((List.range l.length).filter fun j => !listed.getD j true) := List.mem_filter.2 ⟨List.mem_range.2 hlt, by simp only [hun]; rfl⟩
   rw [hsub]
   have hlt2 : (((List.range l.length).filter fun j => !listed.getD j true).filter (fun j => !(j == i))).length < ((List.range l.length).filter fun j => !listed.getD j true).length :=
    List.length_filter_lt_length_iff_exists.2 ⟨i, hmem, by simp⟩
   omega
  let Lv := ts.filter (gO listed)
  let rest := (Lv.filter (fun t => !(iL t.use i))).filter (fun t => !(mem i t.rd))
  have hirr : i ∉ eS ps i := by
   rw [hpa]; intro h; exact absurd (ok.gq i h).1 (Nat.lt_irrefl _)
  have bydone : ∀ t ∈ ts, (∀ q, t.by_ = some q → q ∈ eS ps i) → (match t.by_ with | some q => listed.getD q false | none => true) = true := by
   intro t ht h
   split
   ·rename_i q hq; exact hanc q (by rw [← hpa]; exact h q hq)
   ·rfl
  have hcl : ∀ t ∈ ts, iL t.use i = true → gO listed t = true := by
   intro t ht hu
   have hu := ov.1 hu
   have hk := htok t ht
   unfold gO
   rw [bydone t ht (hk.use i hu).2, hu]
   have : listed.getD i false = false := qN hun
   simp [this]
  have hrl : ∀ t ∈ ts, mem i t.rd = true → gO listed t = true ∧ iL t.use i = false := by
   intro t ht hr
   have hk := (htok t ht).rd i (mem_iff.1 hr)
   have hnu : iL t.use i = false := by
    cases e : iL t.use i with
    | false => rfl
    | true => exact absurd (hk.2.2 i (ov.1 e)) hirr
   refine ⟨?_, hnu⟩
   unfold gO
   rw [bydone t ht hk.1, Bool.true_and]
   split
   ·rename_i c hc
    have : listed.getD c false = false := by
     cases e : listed.getD c false with
     | false => rfl
     | true => exact absurd (hk.2.2 c hc) (hancn c e)
    rw [this]; rfl
   ·rfl
  have hf1 : Lv.filter (fun t => iL t.use i) = ie ts i := by
   show (ts.filter _).filter _ = ts.filter _
   rw [List.filter_filter]
   apply List.filter_congr
   intro t ht
   cases e : iL t.use i with
   | false => simp
   | true => simp [hcl t ht e]
  have hf2 : (Lv.filter (fun t => !(iL t.use i))).filter (fun t => mem i t.rd) = e9 ts i := by
   show ((ts.filter _).filter _).filter _ = ts.filter _
   rw [List.filter_filter, List.filter_filter]
   apply List.filter_congr
   intro t ht
   cases e : mem i t.rd with
   | false => simp
   | true => obtain ⟨h1, h2⟩ := hrl t ht e; simp [h1, h2]
  have hperm1 : Lv.Perm (ie ts i ++ (e9 ts i ++ rest)) := by
   have h1 := ly (fun t => iL t.use i) Lv
   have h2 := ly (fun t => mem i t.rd) (Lv.filter (fun t => !(iL t.use i)))
   rw [hf1] at h1
   rw [hf2] at h2
   exact h1.trans (List.Perm.append_left _ h2)
  have hperm2 : (ts.filter (gO (listed.setIfInBounds i true))).Perm (gT ts i ++ (e9 ts i ++ rest)) := by
   have h1 := ly (fun t => iL t.by_ i) (ts.filter (gO (listed.setIfInBounds i true)))
   have e1 : (ts.filter (gO (listed.setIfInBounds i true))).filter (fun t => iL t.by_ i) = gT ts i := by
    rw [List.filter_filter]
    apply List.filter_congr
    intro t ht
    cases e : iL t.by_ i with
    | false => simp
    | true =>
     have hbi := ov.1 e
     have hk := htok t ht
     unfold gO
     rw [hbi]
     simp only [hset, if_true, Bool.true_and]
     split
     ·rename_i c hc
      have hci : i ∈ eS ps c := (hk.use c hc).2 i hbi
      have hne : c ≠ i := fun e => hirr (e ▸ hci)
      have : listed.getD c false = false := by
       cases e : listed.getD c false with
       | false => rfl
       | true => exact absurd hci (hancn c e)
      simp [hne, this]
     ·rfl
   have e2 : (ts.filter (gO (listed.setIfInBounds i true))).filter (fun t => !(iL t.by_ i)) = Lv.filter (fun t => !(iL t.use i)) := by
    show _ = (ts.filter _).filter _
    rw [List.filter_filter, List.filter_filter]
    apply List.filter_congr
    intro t ht
    unfold gO
    have hb1 : (!(iL t.by_ i) && (match t.by_ with | some p => (listed.setIfInBounds i true).getD p false | none => true)) = (match t.by_ with | some p => listed.getD p false | none => true) := by
     split
     ·rename_i q hq
      rw [hq, hset]
      by_cases e : q = i
      ·subst e
       have : listed.getD q false = false := qN hun
       simp [iL, this]
      ·have : iL (some q) i = false := by
        cases h : iL (some q) i with
        | false => rfl
        | true => have := ov.1 h; simp at this; exact absurd this e
       simp [e, this]
     ·rename_i hq; rw [hq]; rfl
    have hu1 : (match t.use with | some c => !((listed.setIfInBounds i true).getD c false) | none => true) = (!(iL t.use i) && (match t.use with | some c => !(listed.getD c false) | none => true)) := by
     split
     ·rename_i c hc
      rw [hc, hset]
      by_cases e : c = i
      ·subst e; simp [iL]
      ·have : iL (some c) i = false := by
        cases h : iL (some c) i with
        | false => rfl
        | true => have := ov.1 h; simp at this; exact absurd this e
       simp [e, this]
     ·rename_i hc; rw [hc]; rfl
    rw [hu1, ← hb1]
    simp only [Bool.and_assoc, Bool.and_left_comm]
   rw [e1, e2] at h1
   have h2 := ly (fun t => mem i t.rd) (Lv.filter (fun t => !(iL t.use i)))
   rw [hf2] at h2
   exact h1.trans (List.Perm.append_left _ h2)
  have hsame : ∀ v, ∀ t ∈ ts, gO listed t = true → t.a (eu y i v) = t.a y := by
   intro v t ht hl
   refine hlocT t ht _ _ (fun q hq j hj => wV ?_)
   have hqd : done listed q := by
    unfold gO at hl
    rw [hq] at hl
    simp only [Bool.and_eq_true] at hl
    exact hl.1
   rcases hj with rfl | hj
   ·exact hself _ hqd
   ·exact hself _ (hinv.wz q hqd j hj)
  have hrestT : ∀ t ∈ rest, t ∈ ts ∧ gO listed t = true := by
   intro t ht
   have h1 := (List.mem_filter.1 (List.mem_filter.1 (List.mem_filter.1 ht).1).1)
   exact h1
  have hstep := hobl i hlt o p ho hp y (eQ rest y) (fun j hj => hinv.Gk j (hanc j hj))
  have hinv1 : Inv C.w0 (eQ (ie ts i) y ++ (eQ (e9 ts i) y ++ (eQ rest y ++ A))) w := by
   refine hinv.inv.perm ?_
   have := (List.Perm.map (fun t : aZ => t.a y) hperm1).append_right A
   simpa [eQ, List.append_assoc] using this
  have hK : ∀ v L' w', (Φ i (eu y i v) ∧ L'.Perm (eQ (gT ts i) (eu y i v) ++ (eQ (e9 ts i) y ++ (eQ rest y ++ A)))) → Inv C.w0 L' w' → wpAny C.P .any l.toArray Q fuel (listed.setIfInBounds i true) (a.put o.dst v) w' := by
   rintro v L' w' ⟨h1, h2⟩ hi'
   refine ih _ _ _ (eu y i v) ⟨by simp [hinv.size], ?_, ?_, ?_, ?_, ?_, ?_, ?_⟩ hcnt
   ·intro j hj q hq
    rcases (hdone' j).1 hj with rfl | hj
    ·exact (hdone' q).2 (.inr (hanc q (by rw [← hpa]; exact hq)))
    ·exact (hdone' q).2 (.inr (hinv.wz j hj q hq))
   ·cases o.dst <;> exact hinv.defers
   ·cases o.dst <;> simp [Act.put, hinv.tp]
   ·intro j hj t ht
    rcases (hdone' j).1 hj with rfl | hj
    ·rw [hdst] at ht
     rw [ht, ng]
     have := (ok.dst t ht).1
     simp [Act.put, hinv.tp, this]
    ·rw [wV (hself j hj)]
     have hv := hinv.Bi j hj t ht
     cases hod : o.dst with
     | none => exact hv
     | some u =>
      have hne : u ≠ t := fun e => (ok.dst u hod).2 j (hself j hj) (e ▸ ht)
      simp only [Act.put]
      rw [Array.getElem?_setIfInBounds_ne hne]
      exact hv
   ·intro s v' hs hne
    have hv := hinv.AE s v' hs (fun j hj => hne j ((hdone' j).2 (.inr hj)))
    cases hod : o.dst with
    | none => exact hv
    | some u =>
     have hne2 : u ≠ s := fun e => hne i ((hdone' i).2 (.inl rfl)) (by rw [hdst, hod, e])
     simp only [Act.put]
     rw [Array.getElem?_setIfInBounds_ne hne2]
     exact hv
   ·intro j hj
    rcases (hdone' j).1 hj with rfl | hj
    ·exact h1
    ·refine hloc j y _ (fun q hq => (wV ?_).symm) (hinv.Gk j hj)
     rcases hq with rfl | hq
     ·exact hself _ hj
     ·exact hself _ (hinv.wz j hj q hq)
   ·refine (hi'.perm h2).perm ?_
    have hp2 := (List.Perm.map (fun t : aZ => t.a (eu y i v)) hperm2).append_right A
    have er : (e9 ts i).map (fun t : aZ => t.a (eu y i v)) = eQ (e9 ts i) y := List.map_congr_left (fun t ht => by
     have := List.mem_filter.1 ht
     exact hsame v t this.1 (hrl t this.1 this.2).1)
    have er2 : rest.map (fun t : aZ => t.a (eu y i v)) = eQ rest y := List.map_congr_left (fun t ht => hsame v t (hrestT t ht).1 (hrestT t ht).2)
    simp only [List.map_append, er, er2] at hp2
    refine List.Perm.trans ?_ hp2.symm
    simp [eQ, List.append_assoc]
  have h5 := hstep a w (wpAny C.P .any l.toArray Q fuel (listed.setIfInBounds i true)) ⟨Q, hX⟩ hagr hinv1 hK
  unfold wpOp
  have ho' : l.toArray[i]? = some o := by simpa using ho
  simp only [ho']
  by_cases hw : Region.wanted o (yielded l.toArray a.tmps) = true
  ·rw [if_pos hw] at h5 ⊢; exact .inl h5
  ·rw [if_neg hw] at h5 ⊢; exact h5
theorem Jz {Q : QT} {id : Nat} (ps : List et) (ts : List aZ) (Φ : Nat → Yv → Prop) {L : List ae}
  (hm : C.P.follows .mixedOrders = true) (hB : wJ C l ps ts = true) (hlen : ps.length = l.length) (h0 : ∃ y0, L.Perm (eQ (p9 ts) y0 ++ A))
  (hloc : ∀ i y y', (∀ j, j = i ∨ j ∈ eS ps i → y j = y' j) → Φ i y → Φ i y')
  (hlocT : ∀ t ∈ ts, ∀ y y' : Yv, (∀ p, t.by_ = some p → ∀ j, j = p ∨ j ∈ eS ps p → y j = y' j) → t.a y = t.a y')
  (hobl : ∀ i, i < l.length → Ji C l E0 ps ts A Φ i)
  (k : ∀ y, (∀ i, i < l.length → Φ i y) → Q .normal (sA l y l.length E0) (eQ (tU ts) y ++ A)) (hX : ∀ ch E L, C.X ch L → Q (.panic ch) E L := by exact fun _ _ _ h => h) : Wp C (.region id l.toArray true) Q E0 L := by
 intro a w ha hi
 obtain ⟨y0, h0⟩ := h0
 unfold wJ at hB
 simp only [Bool.and_eq_true] at hB
 have hok : ∀ i, i < l.length → ∃ o p, l[i]? = some o ∧ ps[i]? = some p ∧ vu C l ps [] i o p := fun i hi => uQ (List.all_eq_true.1 hB.1 i (List.mem_range.2 hi))
 have htok : ∀ t ∈ ts, iu ps l.length t := fun t ht => Bz (List.all_eq_true.1 hB.2 t ht)
 refine wp_region_any hm ?_
 have hs : l.toArray.size = l.length := by simp
 rw [hs]
 refine BN (E0 := E0) (Φ := Φ) (A := A) hok htok hlen hobl hloc hlocT (fun ch E L a w h1 h2 h3 => ⟨E, L, h1, h2, hX ch E L h3⟩) ?_ l.length (Array.replicate l.length false) a _ y0 ?_ ?_
 ·intro a w y p2 p3 p4 p5 p6 p7
  refine ⟨_, _, ⟨p3, p4, ?_⟩, p7, k y p2⟩
  have key : ∀ (n : Nat), n ≤ l.length → ∀ d v, (sA l y n E0).get d = some v → (∃ i, i < n ∧ ew l i = some d ∧ v = y i) ∨ (E0.get d = some v ∧ ∀ i, i < n → ew l i ≠ some d) := by
   intro n
   induction n with
   | zero => intro _ d v h; exact .inr ⟨h, fun i hi => absurd hi (by omega)⟩
   | succ n ih =>
    intro hn d v h
    simp only [sA] at h
    split at h
    ·rename_i t ht
     rw [Env.iF] at h
     by_cases e : t = d
     ·subst e; simp at h; exact .inl ⟨n, by omega, ht, h.symm⟩
     ·simp only [e, if_false] at h
      rcases ih (by omega) d v h with ⟨i, hi, h1, h2⟩ | ⟨h1, h2⟩
      ·exact .inl ⟨i, by omega, h1, h2⟩
      ·refine .inr ⟨h1, fun i hi => ?_⟩
       by_cases e2 : i = n
       ·subst e2; rw [ht]; intro e3; cases e3; exact e rfl
       ·exact h2 i (by omega)
    ·rename_i ht
     rcases ih (by omega) d v h with ⟨i, hi, h1, h2⟩ | ⟨h1, h2⟩
     ·exact .inl ⟨i, by omega, h1, h2⟩
     ·refine .inr ⟨h1, fun i hi => ?_⟩
      by_cases e2 : i = n
      ·subst e2; rw [ht]; simp
      ·exact h2 i (by omega)
  intro d v h
  rcases key l.length (Nat.le_refl _) d v h with ⟨i, hi, h1, rfl⟩ | ⟨h1, h2⟩
  ·exact p5 i hi d h1
  ·exact p6 d v h1 (fun j hj => h2 j (sk hj) hj)
 ·have hnone : ∀ j, ¬ done (Array.replicate l.length false) j := fun j h => by
   unfold done at h
   rw [iR] at h
   cases h
  have hlive : ts.filter (gO (Array.replicate l.length false)) = p9 ts := by
   unfold p9
   apply List.filter_congr
   intro t ht
   unfold gO
   cases h1 : t.by_ with
   | some q => simp only [iR, Bool.false_and]; rfl
   | none =>
    simp only [Bool.true_and]
    cases h2 : t.use with
    | some c => simp only [iR]; rfl
    | none => rfl
  exact ⟨by simp, fun i h => absurd h (hnone i), ha.defers, ha.size, fun i h => absurd h (hnone i), fun s v hs _ => ha.get s v hs, fun i h => absurd h (hnone i), by
   rw [hlive]
   exact hi.drew.perm h0⟩
 ·exact Nat.le_trans (List.length_filter_le _ _) (by simp)
end
end Go.Sl

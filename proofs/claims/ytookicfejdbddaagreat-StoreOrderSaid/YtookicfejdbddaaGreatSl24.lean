/- Walks of functions that the law reaches, and what they lean on; no conditions. -/
import Derived.Test.YtookicfejdbddaaGreatM4
set_option linter.unusedVariables false
set_option linter.unusedSimpArgs false
set_option linter.unnecessarySimpa false
set_option maxRecDepth 100000
namespace Go.Sl
def calm (o : Oper) : Oper := { o with op := .move (.const undef) }
def calmL (l : List Oper) : List Oper := l.dropLast ++ (match l.getLast? with | some o => [calm o] | none => [])
def lastB (l : List Oper) : Bool := match l.getLast? with
  | some o => (List.range (l.length - 1)).all (fun j => o.after.toList.any fun e => Region.binds .any e && Nat.beq e.on j) && noSelect o.op
  | none => false
def reB (l : List Oper) : Bool := rdB (calmL l) && lastB l
def Env.del (d : Nat) : Env → Env
  | [] => []
  | (k, v) :: E => cond (Nat.beq k d) (Env.del d E) ((k, v) :: Env.del d E)
theorem Env.get_del {d k : Nat} {u : Value} : ∀ {E : Env}, (E.del d).get k = some u → k ≠ d ∧ E.get k = some u
  | [], h => by cases h
  | (q, y) :: E, h => by
    rw [Env.get_cons]
    unfold Env.del at h
    cases hq : Nat.beq q d with
    | true =>
      rw [hq] at h
      obtain ⟨h1, h2⟩ := Env.get_del h
      have : q = d := Nat.eq_of_beq_eq_true hq
      exact ⟨h1, by rw [if_neg (by omega)]; exact h2⟩
    | false =>
      rw [hq] at h
      simp only [cond_false] at h
      rw [Env.get_cons] at h
      have hqd : q ≠ d := fun e => by subst e; rw [Nat.beq_refl] at hq; cases hq
      by_cases hqk : q = k
      · rw [if_pos hqk] at h ⊢; exact ⟨by omega, h⟩
      · rw [if_neg hqk] at h ⊢; exact Env.get_del h
def lastQ (C : Ctx) (l : List Oper) (Q : QT) : QT := fun e E L => match l.getLast? with
  | some o => (match o.dst with | some d => Ops C l.toArray [o] Q (E.del d) L | none => Ops C l.toArray [o] Q E L)
  | none => False
theorem calm_at {l : List Oper} {o : Oper} (h : l.getLast? = some o) : l = l.dropLast ++ [o] ∧ calmL l = l.dropLast ++ [calm o] := by
  have hne : l ≠ [] := by intro e; subst e; cases h
  have e1 := List.dropLast_concat_getLast hne
  have e2 : l.getLast hne = o := by rw [List.getLast?_eq_some_getLast hne] at h; exact Option.some.inj h
  rw [e2] at e1
  exact ⟨e1.symm, by unfold calmL; rw [h]⟩
section
variable {P : Program} {w : World}
theorem yielded_calm {l0 : List Oper} {o : Oper} (tm : Array Value) : yielded (l0 ++ [calm o]).toArray tm = yielded (l0 ++ [o]).toArray tm := by
  funext j
  unfold yielded
  simp only [List.getElem?_toArray]
  rcases Nat.lt_or_ge j l0.length with h | h
  · rw [List.getElem?_append_left h, List.getElem?_append_left h]
  · rw [List.getElem?_append_right h, List.getElem?_append_right h]
    cases j - l0.length with
    | zero => rfl
    | succ k => simp
theorem ready_calm {l0 : List Oper} {o : Oper} (listed : Array Bool) : Region.ready .any (l0 ++ [calm o]).toArray listed = Region.ready .any (l0 ++ [o]).toArray listed := by
  unfold Region.ready
  simp only [List.size_toArray, List.length_append, List.length_singleton]
  apply List.filter_congr
  intro i hi
  congr 1
  simp only [List.getElem?_toArray]
  rcases Nat.lt_or_ge i l0.length with h | h
  · rw [List.getElem?_append_left h, List.getElem?_append_left h]
  · rw [List.getElem?_append_right h, List.getElem?_append_right h]
    cases i - l0.length with
    | zero => rfl
    | succ k => simp
theorem still_calm {l0 : List Oper} {o : Oper} {K K' : Act → Prop} (hK : ∀ a, K a → K' a) : ∀ (l : List Oper) (a : Act), wpStill P (l0 ++ [o]).toArray w K l a → wpStill P (l0 ++ [calm o]).toArray w K' l a
  | [], a, h => hK a h
  | x :: l, a, h => by
    unfold wpStill at h ⊢
    rw [yielded_calm]
    split
    · rename_i hw
      rw [if_pos hw] at h
      exact Oper.still_mono (fun a h => still_calm hK l a h) h
    · rename_i hw
      rw [if_neg hw] at h
      exact still_calm hK l _ h
theorem still_append {ops : Array Oper} {K : Act → Prop} : ∀ (l l' : List Oper) (a : Act), wpStill P ops w (fun a => wpStill P ops w K l' a) l a → wpStill P ops w K (l ++ l') a
  | [], l', a, h => h
  | x :: l, l', a, h => by
    rw [List.cons_append]
    unfold wpStill at h ⊢
    split
    · rename_i hw
      rw [if_pos hw] at h
      exact Oper.still_mono (fun a h => still_append l l' a h) h
    · rename_i hw
      rw [if_neg hw] at h
      exact still_append l l' _ h
theorem still_last {ops : Array Oper} {o : Oper} {K : Act → Prop} {a : Act} (h : K (a.put o.dst undef)) : wpStill P ops w K [calm o] a := by
  unfold wpStill
  have e : (calm o).dst = o.dst := rfl
  split
  · unfold Oper.still
    have hr : (execOp a.eval (calm o)).run P w = .ok (.value undef) w := by simp [calm, execOp, Act.eval]
    rw [hr, Oper.stillUpon_value, e]
    exact h
  · rw [e]; exact h
theorem any_calm {l0 : List Oper} {o : Oper} {Q : Exit → Act → World → Prop} {Q' : Act → Prop} (hlt : ∀ e ∈ o.after.toList, Region.binds .any e = true → e.on < l0.length) (hsm : ∀ k x, l0[k]? = some x → ∀ e ∈ x.after.toList, Region.binds .any e = true → e.on < k)
    (hwait : ∀ j, j < l0.length → ∃ e ∈ o.after.toList, Region.binds .any e = true ∧ e.on = j)
    (hK : ∀ a, Q' (a.put o.dst undef) → ∀ K : Act → World → Prop, (∀ a w, Q .normal a w → K a w) → if Region.wanted o (yielded (l0 ++ [o]).toArray a.tmps) then (o.wp P a w K Q ∨ (o.asks P a w ∧ LetsOut Q)) else K (a.put o.dst undef) w) :
    ∀ (fuel : Nat) (listed : Array Bool) (a : Act), listed.size = l0.length + 1 → listed.getD l0.length true = false → wpAnyS P .any (l0 ++ [calm o]).toArray w Q' fuel listed a → wpAny P .any (l0 ++ [o]).toArray Q fuel listed a w := by
  have hne : ∀ listed : Array Bool, listed.size = l0.length + 1 → listed.getD l0.length true = false → Region.ready .any (l0 ++ [o]).toArray listed ≠ [] := by
    intro listed hs hl h0
    have key : ∀ i, i < l0.length → listed.getD i true = true := by
      intro i
      induction i using Nat.strongRecOn with
      | _ i ih =>
        intro hi
        cases hd : listed.getD i true with
        | true => rfl
        | false =>
          exfalso
          have : i ∈ Region.ready .any (l0 ++ [o]).toArray listed := mem_ready.2 ⟨hd, l0[i], by simp [List.getElem?_append_left hi, hi], fun e he hb => by
            have hlt2 := hsm i _ (List.getElem?_eq_getElem hi) e (by simpa using he) hb
            have := ih e.on hlt2 (by omega)
            have hsz : e.on < listed.size := by omega
            simp [hsz] at this ⊢
            exact this⟩
          rw [h0] at this; cases this
    have : l0.length ∈ Region.ready .any (l0 ++ [o]).toArray listed := mem_ready.2 ⟨hl, o, by simp, fun e he hb => by
      have hlt2 := hlt e (by simpa using he) hb
      have := key e.on hlt2
      have hsz : e.on < listed.size := by omega
      simp [hsz] at this ⊢
      exact this⟩
    rw [h0] at this; cases this
  intro fuel
  induction fuel with
  | zero =>
    intro listed a hs hl h
    have := h.1
    rw [ready_calm] at this
    exact absurd this (hne listed hs hl)
  | succ fuel ih =>
    intro listed a hs hl h
    refine ⟨fun h0 => absurd h0 (hne listed hs hl), fun i hi => ?_⟩
    have h1 := h.2 i (by rw [ready_calm]; exact hi)
    obtain ⟨hun, x, hx, hall⟩ := mem_ready.1 hi
    have hx' : (l0 ++ [o])[i]? = some x := by simpa using hx
    have hile : i < l0.length + 1 := by
      have := (List.getElem?_eq_some_iff.1 hx').1
      simpa using this
    rcases Nat.lt_or_ge i l0.length with hi2 | hi2
    · -- one of the first
      have hxc : (l0 ++ [calm o]).toArray[i]? = some x := by
        simp only [List.getElem?_toArray]
        rw [List.getElem?_append_left hi2] at hx' ⊢
        exact hx'
      have h2 : stOp P (l0 ++ [o]).toArray w i (wpAnyS P .any (l0 ++ [calm o]).toArray w Q' fuel (listed.setIfInBounds i true)) a := by
        unfold stOp at h1 ⊢
        rw [hxc] at h1
        rw [hx]
        simp only at h1 ⊢
        rw [yielded_calm] at h1
        exact h1
      refine wpOp_of_stOp (fun a' h3 => ih _ a' (by simp [hs]) ?_ h3) h2
      rw [getD_set_ne true (by omega)]
      exact hl
    · -- the last one
      have hil : i = l0.length := by omega
      subst hil
      have hxo : x = o := by simpa using hx'.symm
      subst hxo
      have hxc : (l0 ++ [calm x]).toArray[l0.length]? = some (calm x) := by simp
      have hlisted : Region.ready .any (l0 ++ [x]).toArray (listed.setIfInBounds l0.length true) = [] := by
        apply List.eq_nil_iff_forall_not_mem.2
        intro j hj
        obtain ⟨g1, y, hy, _⟩ := mem_ready.1 hj
        have hy' : (l0 ++ [x])[j]? = some y := by simpa using hy
        have hjl : j < l0.length + 1 := by
          have := (List.getElem?_eq_some_iff.1 hy').1
          simpa using this
        rcases Nat.lt_or_ge j l0.length with hj2 | hj2
        · obtain ⟨e, he, hb, hon⟩ := hwait j hj2
          have := hall e (by simpa using he) hb
          rw [hon] at this
          rw [getD_set_ne true (by omega)] at g1
          have hsz : j < listed.size := by omega
          simp [hsz] at this g1
          rw [this] at g1; cases g1
        · have : j = l0.length := by omega
          subst this
          simp [hs] at g1
      have h3 : Q' (a.put x.dst undef) := by
        unfold stOp at h1
        rw [hxc] at h1
        simp only at h1
        have hfin : ∀ a', wpAnyS P .any (l0 ++ [calm x]).toArray w Q' fuel (listed.setIfInBounds l0.length true) a' → Q' a' := by
          intro a' h4
          have hr0 : Region.ready .any (l0 ++ [calm x]).toArray (listed.setIfInBounds l0.length true) = [] := by rw [ready_calm]; exact hlisted
          cases fuel with
          | zero => exact h4.2
          | succ f => exact h4.1 hr0
        have hr : (execOp a.eval (calm x)).run P w = .ok (.value undef) w := by simp [calm, execOp, Act.eval]
        split at h1
        · unfold Oper.still at h1
          rw [hr, Oper.stillUpon_value] at h1
          exact hfin _ h1
        · exact hfin _ h1
      have h4 := hK a h3 (wpAny P .any (l0 ++ [x]).toArray Q fuel (listed.setIfInBounds l0.length true)) (fun a' w' hq => wpAny_done hlisted hq fuel)
      unfold wpOp
      simp only [hx]
      split
      · rename_i hw; rw [if_pos hw] at h4; exact h4
      · rename_i hw; rw [if_neg hw] at h4; exact h4
end
section
variable {C : Ctx} {Q : QT} {E : Env} {L : List HProp}
theorem Agr.unput {E' : Env} {a a0 : Act} {d : Nat} {v : Value} (h : Agr C E' a0) (e : a.put (some d) v = a0.put (some d) v) : Agr C (E'.del d) a := by
  have e1 : a.defers = a0.defers := (congrArg (fun z : Act => z.defers) e : (a.put (some d) v).defers = (a0.put (some d) v).defers)
  have e2 : a.tmps.setIfInBounds d v = a0.tmps.setIfInBounds d v := (congrArg (fun z : Act => z.tmps) e : (a.put (some d) v).tmps = (a0.put (some d) v).tmps)
  refine ⟨e1.trans h.defers, ?_, fun k u hk => ?_⟩
  · have := congrArg Array.size e2
    simp only [Array.size_setIfInBounds] at this
    exact this.trans h.size
  · obtain ⟨h1, h2⟩ := Env.get_del hk
    have h3 := h.get k u h2
    have h4 := congrArg (fun z : Array Value => z[k]?) e2
    rw [Array.getElem?_setIfInBounds_ne (fun e => h1 e.symm), Array.getElem?_setIfInBounds_ne (fun e => h1 e.symm)] at h4
    rw [h4]; exact h3
theorem still_mono2 {P : Program} {w : World} {ops : Array Oper} {K K' : Act → Prop} (hK : ∀ a, K a → K' a) : ∀ (l : List Oper) (a : Act), wpStill P ops w K l a → wpStill P ops w K' l a
  | [], a, h => hK a h
  | x :: l, a, h => by
    unfold wpStill at h ⊢
    split
    · rename_i hw
      rw [if_pos hw] at h
      exact Oper.still_mono (fun a h => still_mono2 hK l a h) h
    · rename_i hw
      rw [if_neg hw] at h
      exact still_mono2 hK l _ h
theorem w_re {id : Nat} {l : List Oper} (hm : C.P.follows .mixedOrders = true) (hB : reB l = true) (h : OpsR C l.toArray l.dropLast (lastQ C l Q) E L) : Wp C (.region id l.toArray true) Q E L := by
  intro a w ha hi
  unfold reB at hB
  simp only [Bool.and_eq_true] at hB
  obtain ⟨hB1, hB2⟩ := hB
  unfold lastB at hB2
  cases hl : l.getLast? with
  | none => rw [hl] at hB2; cases hB2
  | some o =>
    rw [hl] at hB2
    simp only [Bool.and_eq_true] at hB2
    obtain ⟨e1, e2⟩ := calm_at hl
    rw [e2] at hB1
    have hB0 := hB1
    generalize hl0 : l.dropLast = l0 at *
    have hlen : l.length - 1 = l0.length := by rw [e1]; simp
    rw [hlen] at hB2
    unfold rdB at hB1
    simp only [Bool.and_eq_true] at hB1
    refine wp_region_any hm ?_
    have hh := h a { w with drawn := w.drawn + 1 } ha hi.drew
    have hs1 : wpStill C.P (l0 ++ [calm o]).toArray { w with drawn := w.drawn + 1 } (fun a => Qh C (lastQ C l Q) .normal a { w with drawn := w.drawn + 1 }) l0 a := by
      have : wpStill C.P (l0 ++ [o]).toArray { w with drawn := w.drawn + 1 } (fun a => Qh C (lastQ C l Q) .normal a { w with drawn := w.drawn + 1 }) l0 a := by rw [← e1]; exact hh
      exact still_calm (fun _ h => h) l0 a this
    have hs2 : wpStill C.P (l0 ++ [calm o]).toArray { w with drawn := w.drawn + 1 } (fun a => ∃ a0, a = a0.put o.dst undef ∧ Qh C (lastQ C l Q) .normal a0 { w with drawn := w.drawn + 1 }) (l0 ++ [calm o]) a :=
      still_append l0 [calm o] a (still_mono2 (fun a h => still_last ⟨a, rfl, h⟩) l0 a hs1)
    have hlx := lexB_of hB0
    simp only [Region.lexB, Bool.and_eq_true] at hlx
    have hS := wpAnyS_lex (md := .any) (ops := (l0 ++ [calm o]).toArray) hlx.1 (l0 ++ [calm o]) 0 (Array.replicate (l0 ++ [calm o]).toArray.size false) a (by simp) (by simpa using hlx.2) hs2
    have hA := any_calm (l0 := l0) (o := o) (w := { w with drawn := w.drawn + 1 }) (Q := Qh C Q) ?_ ?_ ?_ ?_ (l0 ++ [calm o]).length (Array.replicate (l0 ++ [calm o]).toArray.size false) a (by simp) (by simp) hS
    · rw [← e1] at hA
      have hsz : (l0 ++ [calm o]).length = l.toArray.size := by rw [e1]; simp
      rw [hsz] at hA
      have hsz2 : (l0 ++ [calm o]).toArray.size = l.toArray.size := by simpa using hsz
      rw [hsz2] at hA
      exact hA
    · intro e he hb
      have := (lexGo_at hB1.2 (k := l0.length) (o := calm o) (by simp)).1 e he hb
      omega
    · intro k x hx e he hb
      have hk : k < l0.length := (List.getElem?_eq_some_iff.1 hx).1
      have := (lexGo_at hB1.2 (k := k) (o := x) (by rw [List.getElem?_append_left hk]; exact hx)).1 e he hb
      omega
    · intro j hj
      have := List.all_eq_true.1 hB2.1 j (List.mem_range.2 hj)
      obtain ⟨e, he, h2⟩ := List.any_eq_true.1 this
      simp only [Bool.and_eq_true] at h2
      exact ⟨e, he, h2.1, Nat.eq_of_beq_eq_true h2.2⟩
    · rintro a1 ⟨a0, hp, E1, L1, g1, g2, g3⟩ K hK
      have fin : wpList C.P l.toArray (Qh C Q) [o] a1 { w with drawn := w.drawn + 1 } → if Region.wanted o (yielded (l0 ++ [o]).toArray a1.tmps) then (o.wp C.P a1 { w with drawn := w.drawn + 1 } K (Qh C Q) ∨ (o.asks C.P a1 { w with drawn := w.drawn + 1 } ∧ LetsOut (Qh C Q))) else K (a1.put o.dst undef) { w with drawn := w.drawn + 1 } := by
        intro h5
        rw [← e1]
        unfold wpList at h5
        split
        · rename_i hw
          rw [if_pos hw] at h5
          exact h5.imp (Oper.wp_mono (fun a w h => hK a w h)) (fun h => h)
        · rename_i hw
          rw [if_neg hw] at h5
          exact hK _ _ h5
      unfold lastQ at g3
      rw [hl] at g3
      simp only at g3
      cases hd : o.dst with
      | none =>
        rw [hd] at g3 hp
        have : a1 = a0 := hp
        subst this
        have := fin (g3 a1 _ g1 g2)
        rw [hd] at this
        exact this
      | some d =>
        rw [hd] at g3 hp
        have := fin (g3 a1 _ (g1.unput hp) g2)
        rw [hd] at this
        exact this
end
end Go.Sl

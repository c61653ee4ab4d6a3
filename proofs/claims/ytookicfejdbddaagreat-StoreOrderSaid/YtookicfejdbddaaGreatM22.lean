/- Walks of functions that the law reaches, and what they lean on; no conditions. -/
import Derived.Test.YtookicfejdbddaaGreatM21
import Derived.Recover
set_option linter.unusedVariables false
set_option linter.unusedSimpArgs false
set_option linter.unnecessarySimpa false
set_option maxRecDepth 100000
namespace Go.Cr
open Go.Sl
section
variable {C : Ctx} {ty : TypeId} {E : Env} {ρ : Ren} {s s' s1 : St} {v : SV} {V : Value} {F : List HProp} {e e' : En} {w0 w : World} {P : Program}
abbrev Ds := List (Nat × List SV)
inductive RF | no | ok (x : Ex) (e : En) (s : St) (ds : Ds)
def denD (ρ : Ren) : Ds → Option (List Deferred)
  | [] => some []
  | x :: l => (match dens ρ x.2 with | some cs => (match denD ρ l with | some r => some ({ target := .fn (.func x.1) cs.toArray, args := #[] } :: r) | none => none) | none => none)
theorem denD_ext {ρ σ : Ren} (h : Ext ρ σ) : ∀ {ds : Ds} {r : List Deferred}, denD ρ ds = some r → denD σ ds = some r
  | [], r, e => e
  | x :: l, r, e => by
    simp only [denD] at e ⊢
    cases hx : dens ρ x.2 with
    | none => rw [hx] at e; cases e
    | some cs =>
      rw [hx] at e
      rw [dens_ext h hx]
      cases hl : denD ρ l with
      | none => rw [hl] at e; cases e
      | some q => rw [hl] at e; rw [denD_ext h hl]; exact e
def deferOf (c : Code) : Option (Nat × Nat × List Operand) := match c with
  | .region _ ⟨[⟨some d, .makeFunc (.func f) ⟨[]⟩ ⟨caps⟩, _, _, _, none⟩, ⟨none, .defer ⟨.value (.tmp d'), ⟨[]⟩, _⟩, _, _, _, none⟩]⟩ false => cond (Nat.beq d d') (some (d, f, caps)) none
  | _ => none
noncomputable def liftF (ds : Ds) (r : RE) : RF := RE.rec .no (fun x e s => .ok x e s ds) r
noncomputable def thnF (ds : Ds) (k : En → St → Ds → RF) (x : Ex) (e : En) (s : St) : RF := Ex.rec (k e s ds) (fun i => .ok (.exit i) e s ds) (.ok .ret e s ds) x
noncomputable def bindF (ds : Ds) (r : RE) (k : En → St → Ds → RF) : RF := RE.rec .no (thnF ds k) r
noncomputable def defK (n : Nat) (e : En) (s : St) (ds : Ds) (k : En → St → Ds → RF) (x : Nat × Nat × List Operand) : RF := Bool.rec .no (Option.rec .no (fun cs => k (e.set x.1 (some (.fn x.2.1 cs))) s ((x.2.1, cs) :: ds)) (evl x.2.2 e)) (Nat.blt x.1 n)
noncomputable def seqF (P : Program) (call : Cl) (n : Nat) (a : Code) (k : En → St → Ds → RF) (e : En) (s : St) (ds : Ds) : RF := Option.rec (bindF ds (evC P call n a e s) k) (defK n e s ds k) (deferOf a)
noncomputable def evD (P : Program) (call : Cl) (n : Nat) (c : Code) : En → St → Ds → RF := Code.rec (motive := fun _ => En → St → Ds → RF)
  (fun e s ds => liftF ds (evC P call n .skip e s))
  (fun id ops dr e s ds => liftF ds (evC P call n (.region id ops dr) e s))
  (fun a _ _ k e s ds => seqF P call n a k e s ds)
  (fun x a b _ _ e s ds => liftF ds (evC P call n (.cond x a b) e s))
  (fun id b _ e s ds => liftF ds (evC P call n (.block id b) e s))
  (fun b _ e s ds => liftF ds (evC P call n (.loop b) e s))
  (fun _ _ _ _ _ _ _ _ _ => .no)
  (fun _ _ _ _ => .no)
  (fun b _ e s ds => liftF ds (evC P call n (.scope b) e s))
  (fun _ _ _ _ => .no)
  (fun _ _ _ _ => .no)
  (fun e s ds => liftF ds (evC P call n .ret e s))
  (fun _ _ _ _ => .no) c
def SSD (C : Ctx) (ρ0 : Ren) (F : List HProp) (ds : Ds) (e : En) (s : St) (a : Act) (w : World) : Prop := ∃ ρ D, denD ρ ds = some D ∧ SS { C with D := D } ρ F e s a w ∧ Ext ρ0 ρ
theorem bindF_ok {r : RE} {k : En → St → Ds → RF} {ds ds' : Ds} {x : Ex} (h : bindF ds r k = .ok x e' s' ds') : (∃ e1 s1, r = .ok .normal e1 s1 ∧ k e1 s1 ds = .ok x e' s' ds') ∨ (r = .ok x e' s' ∧ x ≠ .normal ∧ ds = ds') := by
  cases r with
  | no => cases h
  | ok y e1 s1 =>
    cases y with
    | normal => exact .inl ⟨e1, s1, rfl, h⟩
    | exit i => cases h; exact .inr ⟨rfl, (fun e => by cases e), rfl⟩
    | ret => cases h; exact .inr ⟨rfl, (fun e => by cases e), rfl⟩
theorem liftF_ok {r : RE} {ds ds' : Ds} {x : Ex} (h : liftF ds r = .ok x e' s' ds') : r = .ok x e' s' ∧ ds = ds' := by
  cases r with
  | no => cases h
  | ok y e1 s1 => cases h; exact ⟨rfl, rfl⟩
theorem deferOf_ok {c : Code} {x : Nat × Nat × List Operand} (h : deferOf c = some x) : ∃ id ty1 pos1 aft1 tys ty2 pos2 aft2, c = .region id [⟨some x.1, .makeFunc (.func x.2.1) #[] x.2.2.toArray, ty1, pos1, aft1, none⟩, ⟨none, .defer ⟨.value (.tmp x.1), #[], tys⟩, ty2, pos2, aft2, none⟩].toArray false := by
  unfold deferOf at h
  split at h
  · rename_i id d f caps ty1 pos1 aft1 d' tys ty2 pos2 aft2
    cases hd : Nat.beq d d' with
    | false => rw [hd] at h; cases h
    | true =>
      rw [hd] at h
      obtain rfl := Nat.eq_of_beq_eq_true hd
      cases h
      exact ⟨_, _, _, _, _, _, _, _, rfl⟩
  · cases h
def SoundF (C : Ctx) (ρ0 : Ren) (F : List HProp) (c : Code) (f : En → St → Ds → RF) : Prop := ∀ (e e' : En) (s s' : St) (ds ds' : Ds) (x : Ex), f e s ds = .ok x e' s' ds' → ∀ (Q : Exit → Act → World → Prop) (a : Act) (w : World), SSD C ρ0 F ds e s a w →
    (∀ a' w', SSD C ρ0 F ds' e' s' a' w' → Q (toEx x) a' w') → c.wp C.P Q a w
theorem lift_ok {call : Cl} (hc : SoundC C.P call) {ρ0 : Ren} (c : Code) {ds ds' : Ds} {x : Ex} (h : liftF ds (evC C.P call C.n c e s) = .ok x e' s' ds') {Q : Exit → Act → World → Prop} {a : Act} {w : World} (hs : SSD C ρ0 F ds e s a w) (hQ : ∀ a' w', SSD C ρ0 F ds' e' s' a' w' → Q (toEx x) a' w') : c.wp C.P Q a w := by
  obtain ⟨h1, rfl⟩ := liftF_ok h
  obtain ⟨ρ, D, k1, k2, k3⟩ := hs
  refine (evC_ok (C := { C with D := D }) (F := F) (ρ0 := ρ) hc c).run h1 k2 (fun a' w' hs' => hQ a' w' ?_)
  obtain ⟨σ, E', j1, j2, j3, j4, j5⟩ := hs'
  exact ⟨σ, D, denD_ext j1 k1, ⟨σ, E', Ext.refl _, j2, j3, j4, j5⟩, k3.trans j1⟩
theorem evD_ok {call : Cl} (hc : SoundC C.P call) {ρ0 : Ren} : ∀ (c : Code), SoundF C ρ0 F c (evD C.P call C.n c)
  | .skip => fun e e' s s' ds ds' x h Q a w hs hQ => lift_ok hc .skip h hs hQ
  | .region id ops dr => fun e e' s s' ds ds' x h Q a w hs hQ => lift_ok hc (.region id ops dr) h hs hQ
  | .cond y c d => fun e e' s s' ds ds' x h Q a w hs hQ => lift_ok hc (.cond y c d) h hs hQ
  | .block id c => fun e e' s s' ds ds' x h Q a w hs hQ => lift_ok hc (.block id c) h hs hQ
  | .loop c => fun e e' s s' ds ds' x h Q a w hs hQ => lift_ok hc (.loop c) h hs hQ
  | .scope c => fun e e' s s' ds ds' x h Q a w hs hQ => lift_ok hc (.scope c) h hs hQ
  | .ret => fun e e' s s' ds ds' x h Q a w hs hQ => lift_ok hc .ret h hs hQ
  | .rangeFunc _ _ _ _ => fun e e' s s' ds ds' x h => by cases h
  | .exit _ => fun e e' s s' ds ds' x h => by cases h
  | .label _ => fun e e' s s' ds ds' x h => by cases h
  | .goto _ => fun e e' s s' ds ds' x h => by cases h
  | .refuse _ => fun e e' s s' ds ds' x h => by cases h
  | .seq c d => fun e e' s s' ds ds' x h Q a w hs hQ => by
    have h : seqF C.P call C.n c (evD C.P call C.n d) e s ds = .ok x e' s' ds' := h
    unfold seqF at h
    cases hd : deferOf c with
    | none =>
      rw [hd] at h
      rcases bindF_ok h with ⟨e1, s1, h1, h2⟩ | ⟨h1, h2, rfl⟩
      · refine Go.wp_seq (lift_ok (ds' := ds) (x := .normal) (e' := e1) (s' := s1) hc c (ds := ds) (by rw [h1]; rfl) hs fun a' w' hs' => ?_)
        exact evD_ok hc d e1 e' s1 s' ds ds' x h2 Q a' w' hs' hQ
      · refine Go.wp_seq (lift_ok (ds' := ds) (x := x) (e' := e') (s' := s') hc c (ds := ds) (by rw [h1]; rfl) hs fun a' w' hs' => ?_)
        have := hQ a' w' hs'
        cases x with
        | normal => exact absurd rfl h2
        | exit i => exact this
        | ret => exact this
    | some y =>
      rw [hd] at h
      obtain ⟨dd, f, caps⟩ := y
      have hh : Bool.rec (motive := fun _ => RF) .no (Option.rec (motive := fun _ => RF) .no (fun cs => evD C.P call C.n d (e.set dd (some (.fn f cs))) s ((f, cs) :: ds)) (evl caps e)) (Nat.blt dd C.n) = .ok x e' s' ds' := h
      cases hn : Nat.blt dd C.n with
      | false => rw [hn] at hh; cases hh
      | true =>
        rw [hn] at hh
        cases hv : evl caps e with
        | none => rw [hv] at hh; cases hh
        | some cs =>
          rw [hv] at hh
          have hg : evD C.P call C.n d (e.set dd (some (.fn f cs))) s ((f, cs) :: ds) = .ok x e' s' ds' := hh
          obtain ⟨id, ty1, pos1, aft1, tys, ty2, pos2, aft2, rfl⟩ := deferOf_ok hd
          obtain ⟨ρ, D, k1, ⟨σ, E', j1, j2, j3, j4, j5⟩, k3⟩ := hs
          obtain ⟨Cs, m1, m2⟩ := evl_ok j2 hv
          refine Go.wp_seq (wp_region_lit ?_)
          refine wpList_plain rfl (fun K hK => ?_)
          have h1 : (execOp a.eval ⟨some dd, .makeFunc (.func f) #[] caps.toArray, ty1, pos1, aft1, none⟩).run C.P w = .ok (.value (.func (.func f) #[] Cs.toArray)) w := by
            simp only [execOp, Instr.makeFunc, j4.evs m1, Sem.run_bind, Sem.run_pure, Result.andThen_ok, Array.map_empty]
          unfold Oper.wp
          rw [h1]
          refine hK _ _ ?_
          have ha2 := j4.put (blt_lt hn) (.func (.func f) #[] Cs.toArray)
          refine wpList_plain rfl (fun K hK => ?_)
          have hev := ha2.eval (x := .tmp dd) (v := .func (.func f) #[] Cs.toArray) (by simp [evalE, Env.get_cons])
          have h2 : (execOp (a.put (some dd) (.func (.func f) #[] Cs.toArray)).eval ⟨none, .defer ⟨.value (.tmp dd), #[], tys⟩, ty2, pos2, aft2, none⟩).run C.P w = .ok (.defer { target := .fn (.func f) Cs.toArray, args := #[] }) w := by
            simp [execOp, resolve, hev, Deferred.ofValue]
          unfold Oper.wp
          rw [h2]
          refine hK _ _ (wpList_nil ?_)
          refine evD_ok hc d _ e' s s' ((f, cs) :: ds) ds' x hg Q _ w ⟨σ, { target := .fn (.func f) Cs.toArray, args := #[] } :: D, ?_, ⟨σ, (dd, .func (.func f) #[] Cs.toArray) :: E', Ext.refl _, j2.put (by simp [den, m2]), j3, ⟨?_, ha2.size, ha2.get⟩, j5⟩, k3.trans j1⟩ hQ
          · simp [denD, m2, denD_ext j1 k1]
          · have := ha2.defers
            simp [Act.put] at this ⊢
            exact this
def isRec (o : Oper) : Option Nat := match o with | ⟨some d, .call ⟨.builtin .recover, ⟨[]⟩, _⟩, _, _, _, none⟩ => some d | _ => none
theorem isRec_ok {o : Oper} {d : Nat} (h : isRec o = some d) : ∃ tys ty pos aft, o = ⟨some d, .call ⟨.builtin .recover, ⟨[]⟩, tys⟩, ty, pos, aft, none⟩ := by
  unfold isRec at h
  split at h
  · cases h; exact ⟨_, _, _, _, rfl⟩
  · cases h
noncomputable def recR (P : Program) (call : Cl) (n : Nat) (ops : List Oper) (e : En) (s : St) : RE := match ops with
  | o :: l => wbe (l.all (dstB n)) (we (isRec o) fun d => wbe (Nat.blt d n) (opsR P call ops l (e.set d (some .nili)) s))
  | [] => .no
noncomputable def idleR (P : Program) (call : Cl) (n : Nat) (c : Code) (e : En) (s : St) : RE := match c with
  | .seq (.region _ ops false) rest => bindE (recR P call n ops.toList e s) (evC P call n rest)
  | _ => .no
noncomputable def idleF (P : Program) (call : Cl) (vs : List SV) (s : St) (fn : Func) : R1 := wo fn.body fun b => wb (Nat.ble vs.length fn.ntmps) (retR P fn.results.toList (idleR P call fn.ntmps b (argsT vs 0) s))
theorem upon_S {o : Oper} {a : Act} {w : World} {ops : Array Oper} {Q : Exit → Act → List Frame → World → Prop} {rest : List Nat} {cs : List Frame} (h : o.wp P a w (fun a' w' => wpOpsS P ops Q rest a' cs w') (fun e a' w' => Q e a' cs w')) :
    (match (execOp a.eval o).run P w with
        | .ok .recover w' =>
          match recoverD cs with
          | some (v, cs') => wpOpsS P ops Q rest (a.put o.dst v) cs' w'
          | none => wpOpsS P ops Q rest (a.put o.dst .nilIface) cs w'
        | r => o.upon P a (fun a' w' => wpOpsS P ops Q rest a' cs w') (fun e a' w' => Q e a' cs w') r) := by
  unfold Oper.wp at h
  split
  · rename_i w' hr
    rw [hr] at h
    exact h.elim
  · exact h
theorem opsS_ok {call : Cl} (hc : SoundC C.P call) {all : List Oper} {ρ0 : Ren} : ∀ {l : List Oper} {e : En} {s : St} {x : Ex}, opsR C.P call all l e s = .ok x e' s' → l.all (dstB C.n) = true → ∀ (k : Nat), (∀ j, l[j]? = all[k + j]?) → ∀ {Q : Exit → Act → List Frame → World → Prop} {a : Act} {cs : List Frame} {w : World}, SS C ρ0 F e s a w →
    (∀ a' w', x = .normal → SS C ρ0 F e' s' a' w' → Q .normal a' cs w') → wpOpsS C.P all.toArray Q (List.range' k l.length) a cs w
  | [], e, s, x, h, hl, k, hk, Q, a, cs, w, hs, hQ => by cases h; exact hQ a w rfl hs
  | o :: l, e, s, x, h, hl, k, hk, Q, a, cs, w, hs, hQ => by
    rw [List.all_cons, Bool.and_eq_true] at hl
    obtain ⟨ρ, E, k1, k2, k3, k4, k5⟩ := hs
    have ho : all.toArray[k]? = some o := by have := hk 0; simp at this; simpa using this.symm
    have hk' : ∀ j, l[j]? = all[k + 1 + j]? := fun j => by have := hk (j + 1); rw [show k + 1 + j = k + (j + 1) by omega]; simpa using this
    rw [List.length_cons, List.range'_succ]
    unfold wpOpsS
    simp only [ho]
    rcases stepO_ok (k := opsR C.P call all l) h with ⟨h1, h2⟩ | ⟨h1, v, s1, h2, h3⟩
    · rw [wanted_ok h1 k2 k4]
      simp only [Bool.false_eq_true, if_false]
      obtain ⟨E', j1, j2⟩ := agr_put (v := .und) (V := undef) hl.1 k2 k4 rfl
      exact opsS_ok hc h2 hl.2 (k + 1) hk' ⟨ρ, E', k1, j1, k3, j2, k5⟩ hQ
    · rw [wanted_ok h1 k2 k4]
      simp only [if_true]
      refine upon_S ?_
      obtain ⟨dst, op, ty, pos, aft, g⟩ := o
      refine op1_ok hc h2 k2 k3 dst pos aft g a w _ _ k4 k5 ?_
      rintro V L' w' ⟨σ, m1, m2, m3, m4⟩ hi'
      obtain ⟨E', j1, j2⟩ := agr_put (o := ⟨dst, op, ty, pos, aft, g⟩) hl.1 (k2.ext m1) k4 m3
      exact opsS_ok hc h3 hl.2 (k + 1) hk' ⟨σ, E', k1.trans m1, j1, m2, j2, m4 _ _ hi'⟩ hQ
theorem idleF_ok {call : Cl} (hc : SoundC P call) {g : Nat} {fn : Func} {vs : List SV} (hfn : fnOf P g = some fn) (h : idleF P call vs s fn = .ok v s') {ρ : Ren} {Vs : List Value} (hf : Fr ρ s.nx) (hv : dens ρ vs = some Vs) {w0 w : World} (hi : Inv w0 (denH ρ s.h ++ F) w) :
    CallsD P g Vs.toArray .returning w fun e u' w' => ∃ V, e = .returned V ∧ u' = .returning ∧ ∃ σ, Ext ρ σ ∧ Fr σ s'.nx ∧ Inv w0 (denH σ s'.h ++ F) w' := by
  obtain ⟨b, hb, h⟩ := wo_ok h
  obtain ⟨hn, h⟩ := wb_ok h
  obtain ⟨x, e, h1, hx, l, h2, rfl⟩ := retR_ok h
  have hn := Nat.le_of_ble_eq_true hn
  have hvl := dens_len hv
  have hfn' : P.funcs[g]? = some fn := by simpa [fnOf] using hfn
  refine callsD_of_wpS hfn' hb (fun c₀ cs hu => ?_)
  unfold idleR at h1
  split at h1 <;> try (cases h1; done)
  rename_i id ops rest _
  have hfinish : ∀ a' w', SS ⟨P, w0, fn.ntmps, [], fun _ _ => False⟩ ρ F e s' a' w' → bodyPostS P fn c₀ cs (fun e u' w' => ∃ V, e = .returned V ∧ u' = .returning ∧ ∃ σ, Ext ρ σ ∧ Fr σ s'.nx ∧ Inv w0 (denH σ s'.h ++ F) w') (toEx x) a' (c₀ :: cs) w' := by
    rintro a' w' ⟨σ, E', k1, k2, k3, k4, k5⟩
    obtain ⟨V, k6, k7⟩ := results_ok (fn := fn) h2 k2 k4 k5
    have hc0 : c₀ :: cs = { c₀ with mode := FrameMode.returning } :: cs := by cases c₀; simp at hu; subst hu; rfl
    rcases hx with hx | hx <;> rw [hx] <;> exact ⟨k4.defers, .returning, hc0, V, k6, V, rfl, rfl, σ, k1, k3, k5⟩
  have start : SS ⟨P, w0, fn.ntmps, [], fun _ _ => False⟩ ρ F (argsT vs 0) s { tmps := Vs.toArray ++ Array.replicate (fn.ntmps - Vs.toArray.size) undef, defers := [] } w := by
    refine ⟨ρ, argE 0 Vs, Ext.refl _, argsT_ok 0 hv, hf, ⟨rfl, ?_, ?_⟩, hi⟩
    · simp; omega
    · intro d u hd
      obtain ⟨_, k2⟩ := argE_get 0 Vs d u hd
      have hlt := (List.getElem?_eq_some_iff.1 k2).1
      simp at k2 hlt ⊢
      rw [Array.getElem?_append_left (by simpa using hlt)]
      simpa using k2
  have hreg : ∀ {y : Ex} {e1 : En} {s1 : St}, recR P call fn.ntmps ops.toList (argsT vs 0) s = .ok y e1 s1 → ∀ {Q : Exit → Act → List Frame → World → Prop}, (∀ a' w', y = .normal → SS ⟨P, w0, fn.ntmps, [], fun _ _ => False⟩ ρ F e1 s1 a' w' → Q .normal a' (c₀ :: cs) w') →
      (Code.region id ops false).wpS P Q { tmps := Vs.toArray ++ Array.replicate (fn.ntmps - Vs.toArray.size) undef, defers := [] } (c₀ :: cs) w := by
    intro y e1 s1 hr Q hQ
    obtain ⟨ops⟩ := ops
    unfold recR at hr
    split at hr <;> try (cases hr; done)
    rename_i o l' hops
    simp only at hops
    subst hops
    obtain ⟨g1, hr⟩ := wbe_ok hr
    obtain ⟨d, g2, hr⟩ := we_ok hr
    obtain ⟨g3, hr⟩ := wbe_ok hr
    refine wpS_region ?_
    rw [show (⟨o :: l'⟩ : Array Oper).size = l'.length + 1 by simp, List.range_eq_range', List.range'_succ]
    unfold wpOpsS
    obtain ⟨tys, ty, pos, aft, rfl⟩ := isRec_ok g2
    have h0 : ((⟨(⟨some d, .call ⟨.builtin .recover, ⟨[]⟩, tys⟩, ty, pos, aft, none⟩ : Oper) :: l'⟩ : Array Oper)[0]?) = some ⟨some d, .call ⟨.builtin .recover, ⟨[]⟩, tys⟩, ty, pos, aft, none⟩ := by simp
    simp only [h0]
    have hrun : ∀ a : Act, (execOp a.eval ⟨some d, .call ⟨.builtin .recover, ⟨[]⟩, tys⟩, ty, pos, aft, none⟩).run P w = .ok .recover w := by
      intro a
      simp [execOp, resolve, invoke, builtin]
    have hrec : recoverD (c₀ :: cs) = none := by simp [recoverD, hu]
    rw [hrun]
    simp only [Region.wanted, if_true, hrec]
    obtain ⟨σ, E', k1, k2, k3, k4, k5⟩ := start
    exact opsS_ok (C := ⟨P, w0, fn.ntmps, [], fun _ _ => False⟩) (F := F) (ρ0 := ρ) hc hr g1 1 (fun j => by rw [Nat.add_comm 1 j]; simp) ⟨σ, (d, .nilIface) :: E', k1, k2.put rfl, k3, k4.put (blt_lt g3) _, k5⟩ hQ
  rcases bindE_ok h1 with ⟨e1, s1, r1, r2⟩ | ⟨r1, r2⟩
  · refine wpS_seq (hreg r1 (fun a' w' _ hs' => ?_))
    refine wpS_of_wp ?_
    exact (evC_ok (C := ⟨P, w0, fn.ntmps, [], fun _ _ => False⟩) (F := F) (ρ0 := ρ) hc rest).run r2 hs' hfinish
  · refine wpS_seq (hreg r1 (fun a' w' hy hs' => absurd hy r2))
end
end Go.Cr
namespace Go.Cr
open Go.Sl
section
variable {C : Ctx} {ty : TypeId} {E : Env} {ρ : Ren} {s s' s1 : St} {v : SV} {V : Value} {F : List HProp} {e e' : En} {w0 w : World} {P : Program}
noncomputable def bindV (r : R1) (k : St → R1) : R1 := R1.rec .no (fun _ s => k s) r
theorem bindV_ok {r : R1} {k : St → R1} (h : bindV r k = .ok v s') : ∃ u s1, r = .ok u s1 ∧ k s1 = .ok v s' := by
  cases r with
  | no => cases h
  | ok u s1 => exact ⟨u, s1, rfl, h⟩
noncomputable def runDs (P : Program) (call : Cl) (ds : Ds) : St → R1 := List.rec (motive := fun _ => St → R1) (fun s => .ok .und s) (fun x _ ih s => wb (bodyB P x.1) (bindV (wo (fnOf P x.1) (idleF P call x.2 s)) ih)) ds
theorem runDs_ok {call : Cl} (hc : SoundC P call) {fn : Func} {tmps : Array Value} {R : Ending → World → Prop} {w0 : World} : ∀ {ds : Ds} {s : St} {v : SV} {ρ : Ren} {D : List Deferred} {w : World}, runDs P call ds s = .ok v s' → denD ρ ds = some D → Fr ρ s.nx → Inv w0 (denH ρ s.h ++ F) w →
    (∀ σ w', Ext ρ σ → Fr σ s'.nx → Inv w0 (denH σ s'.h ++ F) w' → ∃ V, (results fn tmps).run P w' = .ok V w' ∧ R (.returned V) w') → Leaves P fn tmps R D .returning w
  | [], s, v, ρ, D, w, h, hD, hf, hi, hR => by
    cases hD
    cases h
    exact hR ρ w (Ext.refl _) hf hi
  | x :: ds, s, v, ρ, D, w, h, hD, hf, hi, hR => by
    obtain ⟨g1, h⟩ := wb_ok (show wb (bodyB P x.1) (bindV (wo (fnOf P x.1) (idleF P call x.2 s)) (runDs P call ds)) = .ok v s' from h)
    obtain ⟨u, s1, h1, h2⟩ := bindV_ok h
    obtain ⟨f, h3, h4⟩ := wo_ok h1
    simp only [denD] at hD
    cases hx : dens ρ x.2 with
    | none => rw [hx] at hD; cases hD
    | some Cs =>
      rw [hx] at hD
      cases hl : denD ρ ds with
      | none => rw [hl] at hD; cases hD
      | some D' =>
        rw [hl] at hD
        cases hD
        refine ⟨by simp, .func x.1, Cs.toArray, x.1, Cs.toArray, rfl, ?_, ?_⟩
        · simp [invoke, run_callFunc g1]
        · refine (idleF_ok hc h3 h4 hf hx hi).mono ?_
          rintro e u' w' ⟨V, rfl, rfl, σ, k1, k2, k3⟩
          exact runDs_ok hc h2 (denD_ext k1 hl) k2 k3 (fun τ w'' m1 m2 m3 => hR τ w'' (k1.trans m1) m2 m3)
noncomputable def endF (P : Program) (call : Cl) (rs : List ResultVar) (e : En) (s : St) (ds : Ds) : R1 := bindV (runDs P call ds s) (retX P rs e)
noncomputable def retF (P : Program) (call : Cl) (rs : List ResultVar) (r : RF) : R1 := RF.rec .no (fun x e s ds => Ex.rec (endF P call rs e s ds) (fun _ => .no) (endF P call rs e s ds) x) r
theorem retF_ok {call : Cl} {rs : List ResultVar} {r : RF} (h : retF P call rs r = .ok v s') : ∃ x e s1 ds, r = .ok x e s1 ds ∧ (toEx x = .normal ∨ toEx x = .ret) ∧ ∃ u l, runDs P call ds s1 = .ok u s' ∧ resV P e s' rs = some l ∧ v = resS l := by
  have key : ∀ {e : En} {s1 : St} {ds : Ds}, endF P call rs e s1 ds = .ok v s' → ∃ u l, runDs P call ds s1 = .ok u s' ∧ resV P e s' rs = some l ∧ v = resS l := by
    intro e s1 ds h
    obtain ⟨u, s2, h1, h2⟩ := bindV_ok h
    obtain ⟨l, h3, h4⟩ := wo_ok h2
    cases h4
    exact ⟨u, l, h1, h3, rfl⟩
  cases r with
  | no => cases h
  | ok x e s ds =>
    cases x with
    | exit i => cases h
    | normal => exact ⟨_, _, _, _, rfl, .inl rfl, key h⟩
    | ret => exact ⟨_, _, _, _, rfl, .inr rfl, key h⟩
noncomputable def runA (P : Program) (call : Cl) (vs : List SV) (s : St) (fn : Func) : R1 := wo fn.body fun b => wb (Nat.ble vs.length fn.ntmps) (retF P call fn.results.toList (evD P call fn.ntmps b (argsT vs 0) s []))
theorem runA_ok {call : Cl} (hc : SoundC P call) {g : Nat} {fn : Func} {vs : List SV} (hfn : fnOf P g = some fn) (h : runA P call vs s fn = .ok v s') {ρ : Ren} {Vs : List Value} (hf : Fr ρ s.nx) (hv : dens ρ vs = some Vs) :
    Ctr P g Vs (denH ρ s.h) (Ret fun V G => ∃ σ, Ext ρ σ ∧ Fr σ s'.nx ∧ den σ v = some V ∧ G = denH σ s'.h) := by
  obtain ⟨b, hb, h⟩ := wo_ok h
  obtain ⟨hn, h⟩ := wb_ok h
  obtain ⟨x, e, s1, ds, h1, hx, u, l, h2, h3, rfl⟩ := retF_ok h
  have hn := Nat.le_of_ble_eq_true hn
  have hvl := dens_len hv
  have hfn' : P.funcs[g]? = some fn := by simpa [fnOf] using hfn
  intro w0 F w hi
  refine calls_of_wp_defers hfn' hb ?_
  refine evD_ok (C := ⟨P, w0, fn.ntmps, [], fun _ _ => False⟩) (F := F) (ρ0 := ρ) hc b _ _ _ _ _ _ _ h1 _ _ _ ⟨ρ, [], rfl, ⟨ρ, argE 0 Vs, Ext.refl _, argsT_ok 0 hv, hf, ⟨rfl, ?_, ?_⟩, hi⟩, Ext.refl _⟩ ?_
  · simp; omega
  · intro d u hd
    obtain ⟨_, k2⟩ := argE_get 0 Vs d u hd
    have hlt := (List.getElem?_eq_some_iff.1 k2).1
    simp at k2 hlt ⊢
    rw [Array.getElem?_append_left (by simpa using hlt)]
    simpa using k2
  · rintro a' w' ⟨τ, D, k1, ⟨σ, E', j1, j2, j3, j4, j5⟩, k3⟩
    have hle : Leaves P fn a'.tmps (fun e w' => ∃ G, Inv w0 (G ++ F) w' ∧ Ret (fun V G => ∃ σ, Ext ρ σ ∧ Fr σ s'.nx ∧ den σ (resS l) = some V ∧ G = denH σ s'.h) e G) a'.defers .returning w' := by
      rw [j4.defers]
      refine runDs_ok hc h2 (denD_ext j1 k1) j3 j5 (fun φ w'' m1 m2 m3 => ?_)
      obtain ⟨V, k6, k7⟩ := results_ok (C := ⟨P, w0, fn.ntmps, D, fun _ _ => False⟩) (fn := fn) h3 (j2.ext m1) j4 m3
      exact ⟨V, k6, denH φ s'.h, m3, V, rfl, φ, k3.trans (j1.trans m1), m2, k7, rfl⟩
    rcases hx with hx | hx <;> rw [hx] <;> exact hle
structure Or where
  g : Nat
  nx : Nat
  nx' : Nat
  vs : List SV
  pre : List Ob
  post : List Ob
  v : SV
def eqBo (a b : Bool) : Bool := match a with | true => b | false => not b
def eqOb (a b : Ob) : Bool := Nat.beq a.id b.id && (Nat.beq a.T b.T && (Nat.beq a.sz b.sz && (eqBo a.ex b.ex && eqbs a.cs b.cs)))
theorem eqOb_ok {a b : Ob} (h : eqOb a b = true) : a = b := by
  unfold eqOb at h
  simp only [Bool.and_eq_true] at h
  obtain ⟨h1, h2, h3, h4, h5⟩ := h
  obtain ⟨i, T, z, x, c⟩ := a
  obtain ⟨i', T', z', x', c'⟩ := b
  have hx : ∀ x y : Bool, eqBo x y = true → x = y := by
    intro x y h
    cases x <;> cases y <;> first | rfl | cases h
  rw [show i = i' from Nat.eq_of_beq_eq_true h1, show T = T' from Nat.eq_of_beq_eq_true h2, show z = z' from Nat.eq_of_beq_eq_true h3, hx x x' h4, show c = c' from eqbs_ok h5]
noncomputable def takeAll (l : List Ob) : Tr Ob → Option (Tr Ob) := List.rec (motive := fun _ => Tr Ob → Option (Tr Ob)) (fun h => some h)
  (fun ob _ ih h => Option.rec none (fun o' => Bool.rec none (ih (h.set ob.id none)) (eqOb ob o')) (h.get ob.id)) l
noncomputable def putAll (l : List Ob) : Tr Ob → Tr Ob := List.rec (motive := fun _ => Tr Ob → Tr Ob) (fun h => h) (fun ob _ ih h => ih (h.set ob.id (some ob))) l
theorem takeAll_ok : ∀ {l : List Ob} {h h' : Tr Ob}, takeAll l h = some h' → (denH ρ h).Perm (l.map (HO ρ) ++ denH ρ h')
  | [], h, h', e => by cases e; exact List.Perm.refl _
  | ob :: l, h, h', e => by
    have e : Option.rec (motive := fun _ => Option (Tr Ob)) none (fun o' => Bool.rec none (takeAll l (h.set ob.id none)) (eqOb ob o')) (h.get ob.id) = some h' := e
    cases hg : h.get ob.id with
    | none => rw [hg] at e; cases e
    | some o' =>
      rw [hg] at e
      have e2 : Bool.rec (motive := fun _ => Option (Tr Ob)) none (takeAll l (h.set ob.id none)) (eqOb ob o') = some h' := e
      clear e
      cases hb : eqOb ob o' with
      | false => rw [hb] at e2; cases e2
      | true =>
        rw [hb] at e2
        obtain rfl := eqOb_ok hb
        exact (H_get hg).trans (List.Perm.cons _ (takeAll_ok e2))
theorem putAll_ok : ∀ {l : List Ob} {h : Tr Ob} {F : List HProp}, Sub (l.map (HO ρ) ++ (denH ρ h ++ F)) (denH ρ (putAll l h) ++ F)
  | [], h, F => Sub.refl _
  | ob :: l, h, F => fun w0 w hi => by
    have h1 : Inv w0 (denH ρ h ++ (HO ρ ob :: (l.map (HO ρ) ++ F))) w := hi.perm (by
      simp only [List.map_cons, List.cons_append]
      refine (List.Perm.cons _ (List.perm_append_comm_assoc _ _ _)).trans ?_
      exact List.perm_middle.symm)
    have h2 := sub_out (ρ := ρ) h ob.id _ w0 w h1
    refine putAll_ok (l := l) (h := h.set ob.id (some ob)) w0 w (h2.perm ?_)
    refine List.Perm.trans ?_ (List.Perm.append_left _ ((H_set (ρ := ρ) h ob.id ob).symm.append_right F))
    refine List.perm_middle.trans ?_
    refine List.Perm.trans (List.Perm.cons _ (List.perm_append_comm_assoc _ _ _)) ?_
    simp only [List.cons_append]
    exact List.perm_middle.symm
def OrS (P : Program) (o : Or) : Prop := ∀ (ρ : Ren) (Vs : List Value), Fr ρ o.nx → dens ρ o.vs = some Vs → Ctr P o.g Vs (o.pre.map (HO ρ)) (Ret fun V G => ∃ σ, Ext ρ σ ∧ Fr σ o.nx' ∧ den σ o.v = some V ∧ G = o.post.map (HO σ))
noncomputable def useO (o : Or) (k : R1) (g : Nat) (vs : List SV) (s : St) : R1 := Bool.rec k (Option.rec k (fun h' => .ok o.v ⟨putAll o.post h', o.nx'⟩) (takeAll o.pre s.h)) (Nat.beq o.g g && (Nat.beq o.nx s.nx && eqbs o.vs vs))
noncomputable def useOs (os : List Or) (k : R1) (g : Nat) (vs : List SV) (s : St) : R1 := List.rec (motive := fun _ => R1) k (fun o _ ih => useO o ih g vs s) os
noncomputable def callO (P : Program) (os : List Or) (n : Nat) : Cl := Nat.rec (motive := fun _ => Cl) (fun _ _ _ => .no) (fun _ ih g vs s => useOs os (wo (fnOf P g) (runA P ih vs s)) g vs s) n
noncomputable def orOk (call : Cl) (o : Or) : Bool := R1.rec false (fun v s => eqb v o.v && (Nat.beq s.nx o.nx' && Option.rec false (fun _ => true) (takeAll o.post s.h))) (call o.g o.vs ⟨putAll o.pre .nil, o.nx⟩)
theorem orS_of {call : Cl} (hc : SoundC P call) {o : Or} (h : orOk call o = true) : OrS P o := by
  intro ρ Vs hf hv w0 F w hi
  unfold orOk at h
  cases hr : call o.g o.vs ⟨putAll o.pre .nil, o.nx⟩ with
  | no => rw [hr] at h; cases h
  | ok v s =>
    rw [hr] at h
    have h : (eqb v o.v && (Nat.beq s.nx o.nx' && Option.rec (motive := fun _ => Bool) false (fun _ => true) (takeAll o.post s.h))) = true := h
    simp only [Bool.and_eq_true] at h
    obtain ⟨h1, h2, h3⟩ := h
    cases ht : takeAll o.post s.h with
    | none => rw [ht] at h3; cases h3
    | some h' =>
      have hi2 : Inv w0 (denH ρ (putAll o.pre .nil) ++ F) w := putAll_ok (h := .nil) w0 w (by simpa [denH, Tr.ents] using hi)
      refine (hc hr hf hv w0 F w hi2).mono ?_
      rintro e w' ⟨G, g1, V, rfl, σ, k1, k2, k3, rfl⟩
      rw [eqb_ok h1] at k3
      rw [Nat.eq_of_beq_eq_true h2] at k2
      refine ⟨o.post.map (HO σ), ?_, V, rfl, σ, k1, k2, k3, rfl⟩
      have g2 := g1.perm ((takeAll_ok ht).append_right F)
      rw [List.append_assoc] at g2
      exact (g2.perm (List.perm_append_comm_assoc _ _ _)).right
end
end Go.Cr
namespace Go.Cr
open Go.Sl
noncomputable def trueV (v : SV) : Bool := match v with | .bool t => t | _ => false
noncomputable def trueR (r : R1) : Bool := R1.rec false (fun v _ => trueV v) r
end Go.Cr
namespace Go.Cr
open Go.Sl
section
variable {P : Program} {s s' : St} {v : SV} {w0 w w' : World}
theorem Inv.grow {L : List HProp} (hi : Inv w0 L w) (hb : Go.RowKit.Below w.heap.size w w') : Inv w0 L w' := by
  obtain ⟨h, a, k⟩ := hi.heap
  refine ⟨hi.below.trans (hb.mono hi.below.size), h, fun b o e => ?_, k⟩
  obtain ⟨h1, h2⟩ := a b o e
  refine ⟨h1, ?_⟩
  rw [hb.block b (Array.getElem?_eq_some_iff.1 h2).1]
  exact h2
noncomputable def orR (r k : R1) : R1 := R1.rec k (fun v s => .ok v s) r
noncomputable def callX (P : Program) (sp : Cl) (os : List Or) (n : Nat) : Cl := Nat.rec (motive := fun _ => Cl) (fun _ _ _ => .no) (fun _ ih g vs s => orR (sp g vs s) (useOs os (wo (fnOf P g) (runA P ih vs s)) g vs s)) n
end
end Go.Cr
namespace Go.Cr
open Go.Sl
mutual
def renS (f : Nat → Nat) : SV → SV
  | .bool b => .bool b
  | .int k n => .int k n
  | .flt k n => .flt k n
  | .str l => .str l
  | .ptr b o => .ptr (f b) o
  | .nilp => .nilp
  | .sli b o n c => .sli (f b) o n c
  | .nils => .nils
  | .fn g cs => .fn g (renL f cs)
  | .nilf => .nilf
  | .ifc t v => .ifc t (renS f v)
  | .nili => .nili
  | .agg l => .agg (renL f l)
  | .tup l => .tup (renL f l)
  | .und => .und
  | .bnd g l => .bnd g (renL f l)
  | .mp b => .mp (f b)
  | .nilm => .nilm
  | .gl g o => .gl g o
def renL (f : Nat → Nat) : List SV → List SV
  | [] => []
  | v :: l => renS f v :: renL f l
end
mutual
theorem den_ren {ρ σ : Ren} {f : Nat → Nat} (h : ∀ k x, ρ k = some x → σ (f k) = some x) : ∀ {v : SV} {V : Value}, den ρ v = some V → den σ (renS f v) = some V
  | .bool b, V, e => by simpa only [renS, den] using e
  | .int k n, V, e => by simpa only [renS, den] using e
  | .flt k n, V, e => by simpa only [renS, den] using e
  | .str l, V, e => by simpa only [renS, den] using e
  | .ptr b o, V, e => by
    simp only [renS, den] at e ⊢
    cases hb : ρ b with
    | none => rw [hb] at e; cases e
    | some x => rw [hb] at e; rw [h b x hb]; exact e
  | .nilp, V, e => by simpa only [renS, den] using e
  | .sli b o n c, V, e => by
    simp only [renS, den] at e ⊢
    cases hb : ρ b with
    | none => rw [hb] at e; cases e
    | some x => rw [hb] at e; rw [h b x hb]; exact e
  | .nils, V, e => by simpa only [renS, den] using e
  | .fn g cs, V, e => by
    simp only [renS, den] at e ⊢
    cases hb : dens ρ cs with
    | none => rw [hb] at e; cases e
    | some x => rw [hb] at e; rw [dens_ren h hb]; exact e
  | .nilf, V, e => by simpa only [renS, den] using e
  | .ifc t v, V, e => by
    simp only [renS, den] at e ⊢
    cases hb : den ρ v with
    | none => rw [hb] at e; cases e
    | some x => rw [hb] at e; rw [den_ren h hb]; exact e
  | .nili, V, e => by simpa only [renS, den] using e
  | .agg l, V, e => by
    simp only [renS, den] at e ⊢
    cases hb : dens ρ l with
    | none => rw [hb] at e; cases e
    | some x => rw [hb] at e; rw [dens_ren h hb]; exact e
  | .tup l, V, e => by
    simp only [renS, den] at e ⊢
    cases hb : dens ρ l with
    | none => rw [hb] at e; cases e
    | some x => rw [hb] at e; rw [dens_ren h hb]; exact e
  | .und, V, e => by simpa only [renS, den] using e
  | .bnd g l, V, e => by
    simp only [renS, den] at e ⊢
    cases hb : dens ρ l with
    | none => rw [hb] at e; cases e
    | some x => rw [hb] at e; rw [dens_ren h hb]; exact e
  | .mp b, V, e => by
    simp only [renS, den] at e ⊢
    cases hb : ρ b with
    | none => rw [hb] at e; cases e
    | some x => rw [hb] at e; rw [h b x hb]; exact e
  | .nilm, V, e => by simpa only [renS, den] using e
  | .gl g o, V, e => by simpa only [renS, den] using e
theorem dens_ren {ρ σ : Ren} {f : Nat → Nat} (h : ∀ k x, ρ k = some x → σ (f k) = some x) : ∀ {l : List SV} {vs : List Value}, dens ρ l = some vs → dens σ (renL f l) = some vs
  | [], vs, e => by simpa only [renL, dens] using e
  | v :: l, vs, e => by
    obtain ⟨V, us, rfl, h1, h2⟩ := dens_cons e
    exact dens_mk (den_ren h h1) (dens_ren h h2)
end
def renO (f : Nat → Nat) (o : Ob) : Ob := ⟨f o.id, o.T, o.sz, o.ex, renL f o.cs⟩
theorem HO_ren {ρ σ : Ren} {f : Nat → Nat} (k : ∀ k x, ρ k = some x → σ (f k) = some x) {o : Ob} {w0 : World} {h : Hp} : HO ρ o w0 h → HO σ (renO f o) w0 h := by
  cases h1 : Nat.blt o.T 4294967296 with
  | true =>
    rw [HO_c h1, HO_c (o := renO f o) h1]
    rintro ⟨x, pre, vs, post, h1, h2, h3⟩
    exact ⟨x, pre, vs, post, k _ _ h1, dens_ren k h2, h3⟩
  | false =>
    cases h2 : Nat.blt o.T 8589934592 with
    | true =>
      rw [HO_m h1 h2, HO_m (o := renO f o) h1 h2]
      rintro ⟨x, vs, h1, h2, h3⟩
      exact ⟨x, vs, k _ _ h1, dens_ren k h2, h3⟩
    | false =>
      rw [HO_g h1 h2, HO_g (o := renO f o) h1 h2]
      rintro ⟨vs, h2, h3⟩
      exact ⟨vs, dens_ren k h2, h3⟩
noncomputable def bindN (N b c : Nat) (m : Tr Nat) : Option (Tr Nat) := Bool.rec none (Option.rec (some (m.set b (some c))) (fun d => Bool.rec none (some m) (Nat.beq d c)) (m.get b)) (Nat.blt b N)
noncomputable def andM (x : Bool) (m : Option (Tr Nat)) : Option (Tr Nat) := Bool.rec none m x
mutual
noncomputable def mtc (N : Nat) : SV → SV → Tr Nat → Option (Tr Nat)
  | .ptr b o, .ptr c p, m => andM (Nat.beq o p) (bindN N b c m)
  | .sli b o n c, .sli b' o' n' c', m => andM (Nat.beq o o' && (Nat.beq n n' && Nat.beq c c')) (bindN N b b' m)
  | .fn g l, .fn g' l', m => andM (Nat.beq g g') (mtcs N l l' m)
  | .ifc t v, .ifc t' v', m => andM (Nat.beq t t') (mtc N v v' m)
  | .agg l, .agg l', m => mtcs N l l' m
  | .tup l, .tup l', m => mtcs N l l' m
  | .bnd g l, .bnd g' l', m => andM (Nat.beq g g') (mtcs N l l' m)
  | .mp b, .mp c, m => bindN N b c m
  | .bool a, v, m => andM (eqb (.bool a) v) (some m)
  | .int k n, v, m => andM (eqb (.int k n) v) (some m)
  | .str l, v, m => andM (eqb (.str l) v) (some m)
  | .nilp, v, m => andM (eqb .nilp v) (some m)
  | .nils, v, m => andM (eqb .nils v) (some m)
  | .nilf, v, m => andM (eqb .nilf v) (some m)
  | .nili, v, m => andM (eqb .nili v) (some m)
  | .und, v, m => andM (eqb .und v) (some m)
  | .nilm, v, m => andM (eqb .nilm v) (some m)
  | .gl g o, v, m => andM (eqb (.gl g o) v) (some m)
  | _, _, _ => none
noncomputable def mtcs (N : Nat) : List SV → List SV → Tr Nat → Option (Tr Nat)
  | [], [], m => some m
  | a :: l, b :: l', m => Option.rec none (fun m => mtcs N l l' m) (mtc N a b m)
  | _, _, _ => none
end
theorem andM_ok {x : Bool} {m : Option (Tr Nat)} {m' : Tr Nat} (h : andM x m = some m') : x = true ∧ m = some m' := by
  cases x with
  | false => cases h
  | true => exact ⟨rfl, h⟩
structure Up (N : Nat) (ρ : Ren) (m m' : Tr Nat) : Prop where
  le : ∀ k c, m.get k = some c → m'.get k = some c
  lt : (∀ k c, m.get k = some c → k < N ∧ ρ c ≠ none) → ∀ k c, m'.get k = some c → k < N ∧ ρ c ≠ none
theorem Up.refl (N : Nat) (ρ : Ren) (m : Tr Nat) : Up N ρ m m := ⟨fun _ _ h => h, fun h => h⟩
theorem Up.trans {N : Nat} {ρ : Ren} {a b c : Tr Nat} (h : Up N ρ a b) (k : Up N ρ b c) : Up N ρ a c := ⟨fun i x e => k.le i x (h.le i x e), fun e => k.lt (h.lt e)⟩
theorem bindN_ok {N b c : Nat} {m m' : Tr Nat} {ρ : Ren} (h : bindN N b c m = some m') (hc : ρ c ≠ none) : Up N ρ m m' ∧ m'.get b = some c := by
  unfold bindN at h
  cases hb : Nat.blt b N with
  | false => rw [hb] at h; cases h
  | true =>
    rw [hb] at h
    have h : Option.rec (motive := fun _ => Option (Tr Nat)) (some (m.set b (some c))) (fun d => Bool.rec none (some m) (Nat.beq d c)) (m.get b) = some m' := h
    cases hg : m.get b with
    | none =>
      rw [hg] at h
      cases h
      refine ⟨⟨fun k d e => ?_, fun e k d => ?_⟩, by rw [Tr.get_set, if_pos rfl]⟩
      · rw [Tr.get_set]
        by_cases hk : k = b
        · subst hk; rw [hg] at e; cases e
        · rw [if_neg hk]; exact e
      · rw [Tr.get_set]
        by_cases hk : k = b
        · subst hk; rw [if_pos rfl]; intro e; cases e; exact ⟨blt_lt hb, hc⟩
        · rw [if_neg hk]; exact e k d
    | some d =>
      rw [hg] at h
      have h : Bool.rec (motive := fun _ => Option (Tr Nat)) none (some m) (Nat.beq d c) = some m' := h
      cases hd : Nat.beq d c with
      | false => rw [hd] at h; cases h
      | true =>
        rw [hd] at h
        cases h
        obtain rfl := Nat.eq_of_beq_eq_true hd
        exact ⟨Up.refl _ _ _, hg⟩
def Says (ρ ρ' : Ren) (m : Tr Nat) : Prop := ∀ k c, m.get k = some c → ρ' k = ρ c
mutual
theorem mtc_ok {N : Nat} {ρ : Ren} : ∀ {p a : SV} {m m' : Tr Nat} {V : Value}, mtc N p a m = some m' → den ρ a = some V → Up N ρ m m' ∧ ∀ ρ', Says ρ ρ' m' → den ρ' p = some V
  | p, a, m, m', V, h, hV => by
    unfold mtc at h
    split at h
    · obtain ⟨h1, h2⟩ := andM_ok h
      obtain ⟨x, hx, rfl⟩ := den_ptr hV
      obtain ⟨k1, k2⟩ := bindN_ok (ρ := ρ) h2 (by rw [hx]; simp)
      obtain rfl := Nat.eq_of_beq_eq_true h1
      exact ⟨k1, fun ρ' hs => by simp [den, hs _ _ k2, hx]⟩
    · obtain ⟨h1, h2⟩ := andM_ok h
      obtain ⟨x, hx, rfl⟩ := den_sli hV
      obtain ⟨k1, k2⟩ := bindN_ok (ρ := ρ) h2 (by rw [hx]; simp)
      simp only [Bool.and_eq_true] at h1
      obtain ⟨e1, e2, e3⟩ := h1
      obtain rfl := Nat.eq_of_beq_eq_true e1
      obtain rfl := Nat.eq_of_beq_eq_true e2
      obtain rfl := Nat.eq_of_beq_eq_true e3
      exact ⟨k1, fun ρ' hs => by simp [den, hs _ _ k2, hx]⟩
    · obtain ⟨h1, h2⟩ := andM_ok h
      obtain ⟨vs, hx, rfl⟩ := den_fn hV
      obtain ⟨k1, k2⟩ := mtcs_ok h2 hx
      obtain rfl := Nat.eq_of_beq_eq_true h1
      exact ⟨k1, fun ρ' hs => by simp [den, k2 ρ' hs]⟩
    · obtain ⟨h1, h2⟩ := andM_ok h
      obtain ⟨vs, hx, rfl⟩ := den_ifc hV
      obtain ⟨k1, k2⟩ := mtc_ok h2 hx
      obtain rfl := Nat.eq_of_beq_eq_true h1
      exact ⟨k1, fun ρ' hs => by simp [den, k2 ρ' hs]⟩
    · obtain ⟨vs, hx, rfl⟩ := den_agg hV
      obtain ⟨k1, k2⟩ := mtcs_ok h hx
      exact ⟨k1, fun ρ' hs => by simp [den, k2 ρ' hs]⟩
    · obtain ⟨vs, hx, rfl⟩ := den_tup hV
      obtain ⟨k1, k2⟩ := mtcs_ok h hx
      exact ⟨k1, fun ρ' hs => by simp [den, k2 ρ' hs]⟩
    · obtain ⟨h1, h2⟩ := andM_ok h
      obtain ⟨vs, hx, rfl⟩ := den_bnd hV
      obtain ⟨k1, k2⟩ := mtcs_ok h2 hx
      obtain rfl := Nat.eq_of_beq_eq_true h1
      exact ⟨k1, fun ρ' hs => by simp [den, k2 ρ' hs]⟩
    · rename_i b c
      have hV' := hV
      simp only [den] at hV'
      split at hV' <;> try (cases hV'; done)
      rename_i x hx
      obtain ⟨k1, k2⟩ := bindN_ok (ρ := ρ) h (by rw [hx]; simp)
      exact ⟨k1, fun ρ' hs => by simp only [den, hs _ _ k2, hx]; exact hV'⟩
    all_goals first
      | (cases h; done)
      | (obtain ⟨h1, h2⟩ := andM_ok h
         cases h2
         obtain rfl := eqb_ok h1
         exact ⟨Up.refl _ _ _, fun ρ' _ => hV⟩)
theorem mtcs_ok {N : Nat} {ρ : Ren} : ∀ {p a : List SV} {m m' : Tr Nat} {vs : List Value}, mtcs N p a m = some m' → dens ρ a = some vs → Up N ρ m m' ∧ ∀ ρ', Says ρ ρ' m' → dens ρ' p = some vs
  | [], [], m, m', vs, h, hV => by
    unfold mtcs at h
    cases h
    exact ⟨Up.refl _ _ _, fun ρ' _ => hV⟩
  | p :: l, a :: l', m, m', vs, h, hV => by
    unfold mtcs at h
    obtain ⟨V, us, rfl, h1, h2⟩ := dens_cons hV
    cases hm : mtc N p a m with
    | none => rw [hm] at h; cases h
    | some m1 =>
      rw [hm] at h
      obtain ⟨k1, k2⟩ := mtc_ok hm h1
      obtain ⟨k3, k4⟩ := mtcs_ok (show mtcs N l l' m1 = some m' from h) h2
      exact ⟨k1.trans k3, fun ρ' hs => dens_mk (k2 ρ' (fun k c e => hs k c (k3.le k c e))) (k4 ρ' hs)⟩
  | [], _ :: _, m, m', vs, h, hV => by unfold mtcs at h; cases h
  | _ :: _, [], m, m', vs, h, hV => by unfold mtcs at h; cases h
end
section
variable {P : Program} {ρ : Ren} {s s' : St} {v : SV} {w0 w : World} {F : List HProp} {N : Nat}
theorem HO_dens {ob : Ob} {L : List HProp} (hi : Inv w0 (HO ρ ob :: L) w) : ∃ vs, dens ρ ob.cs = some vs := by
  obtain ⟨_, h, _, h1, _, _, _, _, p, _⟩ := hi
  cases h1 : Nat.blt ob.T 4294967296 with
  | true =>
    rw [HO_c h1] at p
    obtain ⟨x, pre, vs, post, h1, h2, h3⟩ := p
    exact ⟨vs, h2⟩
  | false =>
    cases h2 : Nat.blt ob.T 8589934592 with
    | true =>
      rw [HO_m h1 h2] at p
      obtain ⟨x, vs, h1, h2, h3⟩ := p
      exact ⟨vs, h2⟩
    | false =>
      rw [HO_g h1 h2] at p
      obtain ⟨vs, h2, h3⟩ := p
      exact ⟨vs, h2⟩
theorem HO_says {ρ' : Ren} {a b : Ob} (hT : a.T = b.T) (hz : a.sz = b.sz) (hx : a.ex = true → b.ex = true) (hi : ρ' a.id = ρ b.id) (hc : ∀ vs, dens ρ b.cs = some vs → dens ρ' a.cs = some vs) {h : Hp} (p : HO ρ b w0 h) : HO ρ' a w0 h := by
  cases h1 : Nat.blt b.T 4294967296 with
  | true =>
    rw [HO_c h1] at p
    rw [HO_c (by rw [hT]; exact h1)]
    obtain ⟨x, pre, vs, post, h1, h2, h3, h4, h5, h6⟩ := p
    exact ⟨x, pre, vs, post, hi.trans h1, hc _ h2, by rw [hT]; exact h3, h4, by rw [hz]; exact h5, fun e => h6 (hx e)⟩
  | false =>
    cases h2 : Nat.blt b.T 8589934592 with
    | true =>
      rw [HO_m h1 h2] at p
      rw [HO_m (by rw [hT]; exact h1) (by rw [hT]; exact h2)]
      obtain ⟨x, vs, h1, h2, h3⟩ := p
      exact ⟨x, vs, hi.trans h1, hc _ h2, h3⟩
    | false =>
      rw [HO_g h1 h2] at p
      rw [HO_g (by rw [hT]; exact h1) (by rw [hT]; exact h2)]
      obtain ⟨vs, h2, h3⟩ := p
      exact ⟨vs, hc _ h2, by rw [hT]; exact h3.1, fun e => by rw [hz]; exact h3.2 (hx e)⟩
def impB (a b : Bool) : Bool := match a with | true => b | false => true
noncomputable def takeR (N : Nat) (l : List Ob) : Tr Ob → Tr Nat → Option (Tr Nat × Tr Ob) := List.rec (motive := fun _ => Tr Ob → Tr Nat → Option (Tr Nat × Tr Ob)) (fun h m => some (m, h))
  (fun ob _ ih h m => Option.rec none (fun c => Option.rec none (fun o' => Bool.rec none (Option.rec none (fun m => ih (h.set c none) m) (mtcs N ob.cs o'.cs m)) (Nat.beq o'.id c && (Nat.beq ob.T o'.T && (Nat.beq ob.sz o'.sz && impB ob.ex o'.ex)))) (h.get c)) (m.get ob.id)) l
theorem impB_ok : ∀ {x y : Bool}, impB x y = true → x = true → y = true := by
  intro x y h e
  subst e
  exact h
theorem takeR_ok : ∀ {l : List Ob} {h h' : Tr Ob} {m M : Tr Nat} {F : List HProp}, takeR N l h m = some (M, h') → Inv w0 (denH ρ h ++ F) w → Up N ρ m M ∧ ∀ ρ', Says ρ ρ' M → Inv w0 (l.map (HO ρ') ++ (denH ρ h' ++ F)) w
  | [], h, h', m, M, F, e, hi => by cases e; exact ⟨Up.refl _ _ _, fun ρ' _ => hi⟩
  | ob :: l, h, h', m, M, F, e, hi => by
    have e : Option.rec (motive := fun _ => Option (Tr Nat × Tr Ob)) none (fun c => Option.rec none (fun o' => Bool.rec none (Option.rec none (fun m => takeR N l (h.set c none) m) (mtcs N ob.cs o'.cs m)) (Nat.beq o'.id c && (Nat.beq ob.T o'.T && (Nat.beq ob.sz o'.sz && impB ob.ex o'.ex)))) (h.get c)) (m.get ob.id) = some (M, h') := e
    cases hg : m.get ob.id with
    | none => rw [hg] at e; cases e
    | some c =>
      rw [hg] at e
      have e : Option.rec (motive := fun _ => Option (Tr Nat × Tr Ob)) none (fun o' => Bool.rec none (Option.rec none (fun m => takeR N l (h.set c none) m) (mtcs N ob.cs o'.cs m)) (Nat.beq o'.id c && (Nat.beq ob.T o'.T && (Nat.beq ob.sz o'.sz && impB ob.ex o'.ex)))) (h.get c) = some (M, h') := e
      cases ho : h.get c with
      | none => rw [ho] at e; cases e
      | some o' =>
        rw [ho] at e
        have e2 : Bool.rec (motive := fun _ => Option (Tr Nat × Tr Ob)) none (Option.rec none (fun m => takeR N l (h.set c none) m) (mtcs N ob.cs o'.cs m)) (Nat.beq o'.id c && (Nat.beq ob.T o'.T && (Nat.beq ob.sz o'.sz && impB ob.ex o'.ex))) = some (M, h') := e
        clear e
        cases hb : (Nat.beq o'.id c && (Nat.beq ob.T o'.T && (Nat.beq ob.sz o'.sz && impB ob.ex o'.ex))) with
        | false => rw [hb] at e2; cases e2
        | true =>
          rw [hb] at e2
          have e3 : Option.rec (motive := fun _ => Option (Tr Nat × Tr Ob)) none (fun m => takeR N l (h.set c none) m) (mtcs N ob.cs o'.cs m) = some (M, h') := e2
          clear e2
          cases hm : mtcs N ob.cs o'.cs m with
          | none => rw [hm] at e3; cases e3
          | some m1 =>
            rw [hm] at e3
            simp only [Bool.and_eq_true] at hb
            obtain ⟨b1, b2, b3, b4⟩ := hb
            have hi1 := hi.perm ((H_get (ρ := ρ) ho).append_right F)
            obtain ⟨vs, hvs⟩ := HO_dens hi1
            obtain ⟨k1, k2⟩ := mtcs_ok hm hvs
            have hi2 : Inv w0 (denH ρ (h.set c none) ++ (HO ρ o' :: F)) w := hi1.perm List.perm_middle.symm
            obtain ⟨k3, k4⟩ := takeR_ok (l := l) (show takeR N l (h.set c none) m1 = some (M, h') from e3) hi2
            refine ⟨k1.trans k3, fun ρ' hs => ?_⟩
            have hi3 := k4 ρ' hs
            have hi4 : Inv w0 (HO ρ o' :: (l.map (HO ρ') ++ (denH ρ h' ++ F))) w := by
              refine hi3.perm ?_
              refine (List.Perm.append_left _ List.perm_middle).trans ?_
              exact List.perm_middle
            refine Inv.imp (fun hh hp => HO_says (Nat.eq_of_beq_eq_true b2) (Nat.eq_of_beq_eq_true b3) (impB_ok b4) ?_ (fun us hus => ?_) hp) hi4
            · rw [hs _ _ (k3.le _ _ (k1.le _ _ hg)), Nat.eq_of_beq_eq_true b1]
            · rw [hvs] at hus
              cases hus
              exact k2 ρ' (fun k c e => hs k c (k3.le k c e))
noncomputable def frN (M : Tr Nat) (n k : Nat) : Nat := Option.rec (Nat.add n k) (fun c => c) (M.get k)
noncomputable def renOs (f : Nat → Nat) (l : List Ob) : List Ob := List.rec [] (fun o _ ih => renO f o :: ih) l
theorem renOs_eq (f : Nat → Nat) : ∀ l, renOs f l = l.map (renO f)
  | [] => rfl
  | o :: l => by rw [List.map_cons, ← renOs_eq f l]; rfl
noncomputable def useR (o : Or) (k : R1) (g : Nat) (vs : List SV) (s : St) : R1 := Bool.rec k (Option.rec k (fun m => Option.rec k (fun x => .ok (renS (frN x.1 s.nx) o.v) ⟨putAll (renOs (frN x.1 s.nx) o.post) x.2, Nat.add s.nx o.nx'⟩) (takeR o.nx o.pre s.h m)) (mtcs o.nx o.vs vs .nil)) (Nat.beq o.g g)
noncomputable def useRs (os : List Or) (k : R1) (g : Nat) (vs : List SV) (s : St) : R1 := List.rec (motive := fun _ => R1) k (fun o _ ih => useR o ih g vs s) os
theorem useR_ok {o : Or} (ho : OrS P o) {k : R1} {g : Nat} {vs : List SV} (h : useR o k g vs s = .ok v s')
    (hk : k = .ok v s' → ∀ {ρ : Ren} {Vs : List Value}, Fr ρ s.nx → dens ρ vs = some Vs → Ctr P g Vs (denH ρ s.h) (Ret fun V G => ∃ σ, Ext ρ σ ∧ Fr σ s'.nx ∧ den σ v = some V ∧ G = denH σ s'.h)) {ρ : Ren} {Vs : List Value} (hf : Fr ρ s.nx) (hv : dens ρ vs = some Vs) :
    Ctr P g Vs (denH ρ s.h) (Ret fun V G => ∃ σ, Ext ρ σ ∧ Fr σ s'.nx ∧ den σ v = some V ∧ G = denH σ s'.h) := by
  unfold useR at h
  cases hb : Nat.beq o.g g with
  | false => rw [hb] at h; exact hk h hf hv
  | true =>
    rw [hb] at h
    obtain rfl := Nat.eq_of_beq_eq_true hb
    have h : Option.rec (motive := fun _ => R1) k (fun m => Option.rec k (fun x => .ok (renS (frN x.1 s.nx) o.v) ⟨putAll (renOs (frN x.1 s.nx) o.post) x.2, Nat.add s.nx o.nx'⟩) (takeR o.nx o.pre s.h m)) (mtcs o.nx o.vs vs .nil) = .ok v s' := h
    cases hm : mtcs o.nx o.vs vs .nil with
    | none => rw [hm] at h; exact hk h hf hv
    | some m =>
      rw [hm] at h
      have h : Option.rec (motive := fun _ => R1) k (fun x => .ok (renS (frN x.1 s.nx) o.v) ⟨putAll (renOs (frN x.1 s.nx) o.post) x.2, Nat.add s.nx o.nx'⟩) (takeR o.nx o.pre s.h m) = .ok v s' := h
      cases ht : takeR o.nx o.pre s.h m with
      | none => rw [ht] at h; exact hk h hf hv
      | some x =>
        obtain ⟨M, h'⟩ := x
        rw [ht] at h
        cases h
        obtain ⟨k1, k2⟩ := mtcs_ok hm hv
        have hM0 : ∀ k c, (Tr.nil : Tr Nat).get k = some c → k < o.nx ∧ ρ c ≠ none := fun k c e => by cases e
        intro w0 F w hi
        obtain ⟨k3, k4⟩ := takeR_ok ht hi
        have hlt := k3.lt (k1.lt hM0)
        let ρ' : Ren := fun k => match M.get k with | some c => ρ c | none => none
        have hs : Says ρ ρ' M := fun k c e => by show (match M.get k with | some c => ρ c | none => none) = ρ c; rw [e]
        have hfr : Fr ρ' o.nx := fun j hj => by
          show (match M.get j with | some c => ρ c | none => none) = none
          cases hg : M.get j with
          | none => rfl
          | some c => have := (hlt j c hg).1; omega
        refine (ho ρ' Vs hfr (k2 ρ' (fun k c e => hs k c (k3.le k c e))) w0 (denH ρ h' ++ F) w (k4 ρ' hs)).mono ?_
        rintro e w' ⟨G, h1, V, rfl, σ', j1, j2, j3, rfl⟩
        let σ : Ren := fun n => match ρ n with | some x => some x | none => if s.nx ≤ n then σ' (n - s.nx) else none
        have hext : Ext ρ σ := fun n x e => by show (match ρ n with | some x => some x | none => if s.nx ≤ n then σ' (n - s.nx) else none) = some x; rw [e]
        have hfr2 : Fr σ (s.nx + o.nx') := fun n hn => by
          show (match ρ n with | some x => some x | none => if s.nx ≤ n then σ' (n - s.nx) else none) = none
          rw [hf n (by omega)]
          dsimp only
          rw [if_pos (by omega)]
          exact j2 _ (by omega)
        have hren : ∀ k x, σ' k = some x → σ (frN M s.nx k) = some x := fun k x e => by
          unfold frN
          cases hg : M.get k with
          | some c =>
            show σ c = some x
            have hc := (hlt k c hg).2
            cases hr : ρ c with
            | none => exact absurd hr hc
            | some y =>
              have := j1 k y ((hs k c hg).trans hr)
              rw [e] at this
              cases this
              exact hext c x hr
          | none =>
            show σ (s.nx + k) = some x
            show (match ρ (s.nx + k) with | some x => some x | none => if s.nx ≤ s.nx + k then σ' (s.nx + k - s.nx) else none) = some x
            rw [hf _ (by omega)]
            dsimp only
            rw [if_pos (by omega), Nat.add_sub_cancel_left]
            exact e
        refine ⟨_, putAll_ok w0 w' (?_ : Inv w0 ((renOs (frN M s.nx) o.post).map (HO σ) ++ (denH σ h' ++ F)) w'), V, rfl, σ, hext, hfr2, den_ren hren j3, rfl⟩
        rw [renOs_eq, List.map_map]
        have h2 : Inv w0 (o.post.map (HO σ ∘ renO (frN M s.nx)) ++ (denH ρ h' ++ F)) w' := sub_map (fun ob w0 hh hp => HO_ren hren hp) _ _ w0 w' h1
        exact ((sub_ext hext h' (o.post.map (HO σ ∘ renO (frN M s.nx)) ++ F)) w0 w' (h2.perm (List.perm_append_comm_assoc _ _ _))).perm (List.perm_append_comm_assoc _ _ _)
theorem useRs_ok {os : List Or} (hos : ∀ o ∈ os, OrS P o) {k : R1} {g : Nat} {vs : List SV} (h : useRs os k g vs s = .ok v s')
    (hk : k = .ok v s' → ∀ {ρ : Ren} {Vs : List Value}, Fr ρ s.nx → dens ρ vs = some Vs → Ctr P g Vs (denH ρ s.h) (Ret fun V G => ∃ σ, Ext ρ σ ∧ Fr σ s'.nx ∧ den σ v = some V ∧ G = denH σ s'.h)) {ρ : Ren} {Vs : List Value} (hf : Fr ρ s.nx) (hv : dens ρ vs = some Vs) :
    Ctr P g Vs (denH ρ s.h) (Ret fun V G => ∃ σ, Ext ρ σ ∧ Fr σ s'.nx ∧ den σ v = some V ∧ G = denH σ s'.h) := by
  induction os generalizing ρ Vs with
  | nil => exact hk h hf hv
  | cons o os ih =>
    refine useR_ok (hos o List.mem_cons_self) (k := useRs os k g vs s) h (fun e ρ Vs hf hv => ?_) hf hv
    exact ih (fun o' ho' => hos o' (List.mem_cons_of_mem _ ho')) e hf hv
noncomputable def callY (P : Program) (sp : Cl) (os : List Or) (n : Nat) : Cl := Nat.rec (motive := fun _ => Cl) (fun _ _ _ => .no) (fun _ ih g vs s => orR (sp g vs s) (useRs os (wo (fnOf P g) (runA P ih vs s)) g vs s)) n
theorem callY_ok {sp : Cl} (hs : SoundC P sp) {os : List Or} (hos : ∀ o ∈ os, OrS P o) (n : Nat) : SoundC P (callY P sp os n) := by
  induction n with
  | zero => intro g vs s s' v h; cases h
  | succ n ih =>
    intro g vs s s' v h ρ Vs hf hv
    have h : orR (sp g vs s) (useRs os (wo (fnOf P g) (runA P (callY P sp os n) vs s)) g vs s) = .ok v s' := h
    cases hr : sp g vs s with
    | ok u s1 =>
      rw [hr] at h
      cases h
      exact hs hr hf hv
    | no =>
      rw [hr] at h
      refine useRs_ok hos (k := wo (fnOf P g) (runA P (callY P sp os n) vs s)) h (fun h ρ Vs hf hv => ?_) hf hv
      obtain ⟨fn, h1, h2⟩ := wo_ok h
      exact runA_ok ih h1 h2 hf hv
noncomputable def iL (k : IntKind) (l : List Nat) : List SV := List.rec [] (fun n _ ih => .int k (.ofNat n) :: ih) l
end
end Go.Cr
namespace Go.Cr
open Go.Sl
section
variable {C : Ctx} {ρ : Ren} {s s' s1 : St} {v : SV} {F : List HProp} {e e' : En} {w0 w : World} {P : Program}
def SoundP (P : Program) (pn : Cl) : Prop := ∀ {g : Nat} {vs : List SV} {s s' : St} {v : SV}, pn g vs s = .ok v s' → ∀ {ρ : Ren} {Vs : List Value}, Fr ρ s.nx → dens ρ vs = some Vs →
  Ctr P g Vs (denH ρ s.h) (Pan fun ch G => ∃ σ V, Ext ρ σ ∧ Fr σ s'.nx ∧ den σ v = some V ∧ ch = [{ v := V, recovered := false }] ∧ G = denH σ s'.h)
noncomputable def ifcR (s : St) (v : SV) : R1 := match v with | .ifc t u => .ok (.ifc t u) s | _ => .no
noncomputable def panO (P : Program) (pn : Cl) (o : Oper) (e : En) (s : St) : R1 := match o.op with
  | .panic x => wo (ev x e) (ifcR s)
  | .call ⟨.value (.func f), ⟨args⟩, _⟩ => wb (bodyB P f) (wo (evl args e) fun vs => pn f vs s)
  | _ => .no
noncomputable def contP (r : R1) (k : SV → St → R1) : R1 := R1.rec .no k r
noncomputable def stepP (P : Program) (call pn : Cl) (all : List Oper) (o : Oper) (e : En) (s : St) (k : En → St → R1) : R1 :=
  Option.rec .no (fun w => Bool.rec (k (put o .und e) s) (orR (panO P pn o e s) (contP (op1 o.op P call e s) fun v s => k (put o v e) s)) w) (wanted all e o)
noncomputable def opsP (P : Program) (call pn : Cl) (all l : List Oper) : En → St → R1 := List.rec (motive := fun _ => En → St → R1) (fun _ _ => .no) (fun o _ ih e s => stepP P call pn all o e s ih) l
noncomputable def nxtP (k : En → St → R1) (x : Ex) (e : En) (s : St) : R1 := Ex.rec (k e s) (fun _ => .no) .no x
noncomputable def cndP (a b : En → St → R1) (e : En) (s : St) (v : SV) : R1 := match v with | .bool t => Bool.rec (b e s) (a e s) t | _ => .no
noncomputable def evQ (P : Program) (call pn : Cl) (n : Nat) (c : Code) : En → St → R1 := Code.rec (motive := fun _ => En → St → R1)
  (fun _ _ => .no)
  (fun _ ops dr e s => Bool.rec (wb (ops.toList.all (dstB n)) (opsP P call pn ops.toList ops.toList e s)) .no dr)
  (fun c _ a b e s => RE.rec (a e s) (nxtP b) (evC P call n c e s))
  (fun x _ _ a b e s => wo (ev x e) (cndP a b e s))
  (fun _ _ b e s => b e s)
  (fun _ _ _ _ => .no)
  (fun _ _ _ _ _ _ _ _ => .no)
  (fun _ _ _ => .no)
  (fun _ b e s => b e s)
  (fun _ _ _ => .no)
  (fun _ _ _ => .no)
  (fun _ _ => .no)
  (fun _ _ _ => .no) c
def EndP (C : Ctx) (ρ0 : Ren) (F : List HProp) (v : SV) (s' : St) (Q : Exit → Act → World → Prop) : Prop := ∀ (σ : Ren) (V : Value) (a' : Act) (w' : World), Ext ρ0 σ → Fr σ s'.nx → den σ v = some V → a'.defers = C.D → Inv C.w0 (denH σ s'.h ++ F) w' → Q (.panic [{ v := V, recovered := false }]) a' w'
theorem opsP_ok {call pn : Cl} (hc : SoundC C.P call) (hp : SoundP C.P pn) {all : List Oper} {ρ0 : Ren} : ∀ {l : List Oper} {e : En} {s : St}, opsP C.P call pn all l e s = .ok v s' → l.all (dstB C.n) = true → ∀ {Q : Exit → Act → World → Prop} {a : Act} {w : World}, SS C ρ0 F e s a w → EndP C ρ0 F v s' Q → wpList C.P all.toArray Q l a w
  | [], e, s, h, hl, Q, a, w, hs, hQ => by cases h
  | o :: l, e, s, h, hl, Q, a, w, hs, hQ => by
    rw [List.all_cons, Bool.and_eq_true] at hl
    have h : stepP C.P call pn all o e s (opsP C.P call pn all l) = .ok v s' := h
    obtain ⟨ρ, E, k1, k2, k3, k4, k5⟩ := hs
    unfold stepP at h
    unfold wpList
    cases hw : wanted all e o with
    | none => rw [hw] at h; cases h
    | some b =>
      rw [hw] at h
      cases b with
      | false =>
        rw [wanted_ok hw k2 k4]
        simp only [Bool.false_eq_true, if_false]
        obtain ⟨E', j1, j2⟩ := agr_put (v := .und) (V := undef) hl.1 k2 k4 rfl
        exact opsP_ok hc hp h hl.2 ⟨ρ, E', k1, j1, k3, j2, k5⟩ hQ
      | true =>
        rw [wanted_ok hw k2 k4]
        simp only [if_true]
        refine .inl ?_
        obtain ⟨dst, op, ty, pos, aft, g⟩ := o
        have h : orR (panO C.P pn ⟨dst, op, ty, pos, aft, g⟩ e s) (contP (op1 op C.P call e s) fun v s => opsP C.P call pn all l (put ⟨dst, op, ty, pos, aft, g⟩ v e) s) = .ok v s' := h
        cases hr : panO C.P pn ⟨dst, op, ty, pos, aft, g⟩ e s with
        | ok u s1 =>
          rw [hr] at h
          cases h
          unfold panO at hr
          split at hr <;> try (cases hr; done)
          · rename_i x hx
            obtain ⟨y, h1, h2⟩ := wo_ok hr
            unfold ifcR at h2
            split at h2 <;> try (cases h2; done)
            rename_i tt uu
            cases h2
            obtain ⟨V, h3, h4⟩ := ev_ok k2 h1
            obtain ⟨U, h5, rfl⟩ := den_ifc h4
            simp only at hx
            subst hx
            have hrun : (execOp a.eval ⟨dst, .panic x, ty, pos, aft, g⟩).run C.P w = .halt (.panic (.iface tt U)) w := by
              simp [execOp, k4.eval h3, Instr.panic, goPanic]
            unfold Oper.wp
            rw [hrun]
            exact hQ ρ _ a w k1 k3 h4 k4.defers k5
          · rename_i f args tys hx
            obtain ⟨hb, hr⟩ := wb_ok hr
            obtain ⟨us, h1, h2⟩ := wo_ok hr
            obtain ⟨Vs, h3, h4⟩ := evl_ok k2 h1
            simp only at hx
            subst hx
            have hargs := k4.evs h3
            have hrun : (execOp a.eval ⟨dst, .call ⟨.value (.func f), ⟨args⟩, tys⟩, ty, pos, aft, g⟩).run C.P w = .ok (.enter f Vs.toArray) w := by
              simp only [execOp, resolve, Deferred.ofValue, Act.eval, invoke, Sem.run_bind, Sem.run_pure, Result.andThen_ok, Array.append_empty, Array.empty_append, run_callFunc hb]
              rw [hargs]
            unfold Oper.wp
            rw [hrun]
            refine (hp h2 k3 h4 C.w0 F w k5).mono ?_
            rintro e1 w' ⟨G, g1, ch, rfl, σ, V, m1, m2, m3, rfl, rfl⟩
            exact hQ σ V a w' (k1.trans m1) m2 m3 k4.defers g1
        | no =>
          rw [hr] at h
          have h : contP (op1 op C.P call e s) (fun v s => opsP C.P call pn all l (put ⟨dst, op, ty, pos, aft, g⟩ v e) s) = .ok v s' := h
          cases ho : op1 op C.P call e s with
          | no => rw [ho] at h; cases h
          | ok u s1 =>
            rw [ho] at h
            refine op1_ok hc ho k2 k3 dst pos aft g a w _ Q k4 k5 ?_
            rintro V L' w' ⟨σ, m1, m2, m3, m4⟩ hi'
            obtain ⟨E', j1, j2⟩ := agr_put (o := ⟨dst, op, ty, pos, aft, g⟩) hl.1 (k2.ext m1) k4 m3
            exact opsP_ok hc hp h hl.2 ⟨σ, E', k1.trans m1, j1, m2, j2, m4 _ _ hi'⟩ hQ
theorem evQ_ok {call pn : Cl} (hc : SoundC C.P call) (hp : SoundP C.P pn) {ρ0 : Ren} : ∀ (c : Code) {e : En} {s : St}, evQ C.P call pn C.n c e s = .ok v s' → ∀ {Q : Exit → Act → World → Prop} {a : Act} {w : World}, SS C ρ0 F e s a w → EndP C ρ0 F v s' Q → c.wp C.P Q a w
  | .skip, e, s, h, Q, a, w, hs, hQ => by cases h
  | .label _, e, s, h, Q, a, w, hs, hQ => by cases h
  | .exit _, e, s, h, Q, a, w, hs, hQ => by cases h
  | .ret, e, s, h, Q, a, w, hs, hQ => by cases h
  | .goto _, e, s, h, Q, a, w, hs, hQ => by cases h
  | .refuse _, e, s, h, Q, a, w, hs, hQ => by cases h
  | .loop _, e, s, h, Q, a, w, hs, hQ => by cases h
  | .rangeFunc _ _ _ _, e, s, h, Q, a, w, hs, hQ => by cases h
  | .region id ⟨ops⟩ dr, e, s, h, Q, a, w, hs, hQ => by
    cases dr with
    | true => cases h
    | false =>
      obtain ⟨h1, h2⟩ := wb_ok (show wb (ops.all (dstB C.n)) (opsP C.P call pn ops ops e s) = .ok v s' from h)
      exact wp_region_lit (opsP_ok hc hp h2 h1 hs hQ)
  | .seq c d, e, s, h, Q, a, w, hs, hQ => by
    have h : RE.rec (motive := fun _ => R1) (evQ C.P call pn C.n c e s) (nxtP (evQ C.P call pn C.n d)) (evC C.P call C.n c e s) = .ok v s' := h
    cases hr : evC C.P call C.n c e s with
    | no =>
      rw [hr] at h
      exact Go.wp_seq (evQ_ok hc hp c h hs hQ)
    | ok x e1 s1 =>
      rw [hr] at h
      cases x with
      | normal => exact Go.wp_seq ((evC_ok hc c).run hr hs fun a' w' hs' => evQ_ok hc hp d h hs' hQ)
      | exit i => cases h
      | ret => cases h
  | .cond x c d, e, s, h, Q, a, w, hs, hQ => by
    obtain ⟨y, h1, h2⟩ := wo_ok (show wo (ev x e) (cndP (evQ C.P call pn C.n c) (evQ C.P call pn C.n d) e s) = .ok v s' from h)
    obtain ⟨ρ, E, k1, k2, k3, k4, k5⟩ := hs
    obtain ⟨V, hx, hV⟩ := ev_ok k2 h1
    unfold cndP at h2
    split at h2 <;> try (cases h2; done)
    rename_i t
    cases hV
    refine Go.wp_cond (k4.eval hx) ?_
    cases t with
    | true => exact evQ_ok hc hp c h2 ⟨ρ, E, k1, k2, k3, k4, k5⟩ hQ
    | false => exact evQ_ok hc hp d h2 ⟨ρ, E, k1, k2, k3, k4, k5⟩ hQ
  | .block id c, e, s, h, Q, a, w, hs, hQ => Go.wp_block (evQ_ok hc hp c (show evQ C.P call pn C.n c e s = .ok v s' from h) hs (fun σ V a' w' g1 g2 g3 g4 g5 => hQ σ V a' w' g1 g2 g3 g4 g5))
  | .scope c, e, s, h, Q, a, w, hs, hQ => wp_scope_straight (evQ_ok hc hp c (show evQ C.P call pn C.n c e s = .ok v s' from h) hs (fun σ V a' w' g1 g2 g3 g4 g5 => hQ σ V a' w' g1 g2 g3 g4 g5))
noncomputable def panF (P : Program) (call pn : Cl) (vs : List SV) (s : St) (fn : Func) : R1 := wo fn.body fun b => wb (Nat.ble vs.length fn.ntmps) (evQ P call pn fn.ntmps b (argsT vs 0) s)
theorem panF_ok {call pn : Cl} (hc : SoundC P call) (hp : SoundP P pn) {g : Nat} {fn : Func} {vs : List SV} (hfn : fnOf P g = some fn) (h : panF P call pn vs s fn = .ok v s') {ρ : Ren} {Vs : List Value} (hf : Fr ρ s.nx) (hv : dens ρ vs = some Vs) :
    Ctr P g Vs (denH ρ s.h) (Pan fun ch G => ∃ σ V, Ext ρ σ ∧ Fr σ s'.nx ∧ den σ v = some V ∧ ch = [{ v := V, recovered := false }] ∧ G = denH σ s'.h) := by
  obtain ⟨b, hb, h⟩ := wo_ok h
  obtain ⟨hn, h⟩ := wb_ok h
  have hn := Nat.le_of_ble_eq_true hn
  have hvl := dens_len hv
  have hfn' : P.funcs[g]? = some fn := by simpa [fnOf] using hfn
  intro w0 F w hi
  refine calls_of_wp hfn' hb ?_
  refine evQ_ok (C := ⟨P, w0, fn.ntmps, [], fun _ _ => False⟩) (F := F) (ρ0 := ρ) hc hp b h ⟨ρ, argE 0 Vs, Ext.refl _, argsT_ok 0 hv, hf, ⟨rfl, ?_, ?_⟩, hi⟩ ?_
  · simp; omega
  · intro d u hd
    obtain ⟨_, k2⟩ := argE_get 0 Vs d u hd
    have hlt := (List.getElem?_eq_some_iff.1 k2).1
    simp at k2 hlt ⊢
    rw [Array.getElem?_append_left (by simpa using hlt)]
    simpa using k2
  · intro σ V a' w' g1 g2 g3 g4 g5
    exact ⟨g4, _, g5, _, rfl, σ, V, g1, g2, g3, rfl, rfl⟩
noncomputable def callP (P : Program) (call : Cl) (n : Nat) : Cl := Nat.rec (motive := fun _ => Cl) (fun _ _ _ => .no) (fun _ ih g vs s => wo (fnOf P g) (panF P call ih vs s)) n
theorem callP_ok {call : Cl} (hc : SoundC P call) (n : Nat) : SoundP P (callP P call n) := by
  induction n with
  | zero => intro g vs s s' v h; cases h
  | succ n ih =>
    intro g vs s s' v h ρ Vs hf hv
    obtain ⟨fn, h1, h2⟩ := wo_ok (show wo (fnOf P g) (panF P call (callP P call n) vs s) = .ok v s' from h)
    exact panF_ok hc ih h1 h2 hf hv
end
end Go.Cr

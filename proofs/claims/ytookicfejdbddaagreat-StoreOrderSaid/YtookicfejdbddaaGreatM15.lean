/- Walks of functions that the law reaches, and what they lean on; no conditions. -/
import Derived.Test.YtookicfejdbddaaGreatM4
set_option linter.unusedVariables false
set_option linter.unusedSimpArgs false
set_option linter.unnecessarySimpa false
set_option maxRecDepth 100000
namespace Go.Cr
open Go.Sl
inductive SV
  | bool (b : Bool) | int (k : IntKind) (n : Int) | flt (k : FloatKind) (n : Nat) | str (l : List Nat)
  | ptr (b o : Nat) | nilp | sli (b o n c : Nat) | nils | fn (f : Nat) (cs : List SV) | nilf | ifc (t : Nat) (v : SV) | nili | agg (l : List SV) | tup (l : List SV) | und | bnd (f : Nat) (fs : List SV) | mp (b : Nat) | nilm | gl (g o : Nat)
abbrev Ren := Nat → Option (Nat × Nat × Nat)
def strV (l : List Nat) : ByteArray := ⟨(l.map UInt8.ofNat).toArray⟩
mutual
def den (ρ : Ren) : SV → Option Value
  | .bool b => some (.bool b)
  | .int k n => some (.int k n)
  | .flt k n => some (.float k n)
  | .str l => some (.string (strV l))
  | .ptr b o => (match ρ b with | some x => some (.pointer (some ⟨x.1, x.2.1 + o, none⟩)) | none => none)
  | .nilp => some (.pointer none)
  | .sli b o n c => (match ρ b with | some x => some (.slice (some ⟨x.1, x.2.1 + o, none⟩) n (c + x.2.2)) | none => none)
  | .nils => some (.slice none 0 0)
  | .fn f cs => (match dens ρ cs with | some l => some (.func (.func f) #[] l.toArray) | none => none)
  | .nilf => some .nilFunc
  | .ifc t v => (match den ρ v with | some V => some (.iface t V) | none => none)
  | .nili => some .nilIface
  | .agg l => (match dens ρ l with | some l => some (.agg l.toArray) | none => none)
  | .tup l => (match dens ρ l with | some l => some (.tuple l.toArray) | none => none)
  | .und => some undef
  | .bnd f fs => (match dens ρ fs with | some l => some (.func (.func f) l.toArray #[]) | none => none)
  | .mp b => (match ρ b with | some x => some (.map (some x.1)) | none => none)
  | .nilm => some (.map none)
  | .gl g o => some (.pointer (some ⟨g, o, none⟩))
def dens (ρ : Ren) : List SV → Option (List Value)
  | [] => some []
  | v :: l => (match den ρ v with | some V => (match dens ρ l with | some vs => some (V :: vs) | none => none) | none => none)
end
def Ext (ρ σ : Ren) : Prop := ∀ n x, ρ n = some x → σ n = some x
theorem Ext.refl (ρ : Ren) : Ext ρ ρ := fun _ _ h => h
theorem Ext.trans {ρ σ τ : Ren} (h : Ext ρ σ) (k : Ext σ τ) : Ext ρ τ := fun n x e => k n x (h n x e)
mutual
theorem den_ext {ρ σ : Ren} (h : Ext ρ σ) : ∀ {v : SV} {V : Value}, den ρ v = some V → den σ v = some V
  | .bool b, V, e => e
  | .int k n, V, e => e
  | .flt k n, V, e => e
  | .str l, V, e => e
  | .ptr b o, V, e => by
    simp only [den] at e ⊢
    cases hb : ρ b with
    | none => rw [hb] at e; cases e
    | some x => rw [hb] at e; rw [h b x hb]; exact e
  | .nilp, V, e => e
  | .sli b o n c, V, e => by
    simp only [den] at e ⊢
    cases hb : ρ b with
    | none => rw [hb] at e; cases e
    | some x => rw [hb] at e; rw [h b x hb]; exact e
  | .nils, V, e => e
  | .fn f cs, V, e => by
    simp only [den] at e ⊢
    cases hb : dens ρ cs with
    | none => rw [hb] at e; cases e
    | some x => rw [hb] at e; rw [dens_ext h hb]; exact e
  | .nilf, V, e => e
  | .ifc t v, V, e => by
    simp only [den] at e ⊢
    cases hb : den ρ v with
    | none => rw [hb] at e; cases e
    | some x => rw [hb] at e; rw [den_ext h hb]; exact e
  | .nili, V, e => e
  | .agg l, V, e => by
    simp only [den] at e ⊢
    cases hb : dens ρ l with
    | none => rw [hb] at e; cases e
    | some x => rw [hb] at e; rw [dens_ext h hb]; exact e
  | .tup l, V, e => by
    simp only [den] at e ⊢
    cases hb : dens ρ l with
    | none => rw [hb] at e; cases e
    | some x => rw [hb] at e; rw [dens_ext h hb]; exact e
  | .und, V, e => e
  | .bnd f l, V, e => by
    simp only [den] at e ⊢
    cases hb : dens ρ l with
    | none => rw [hb] at e; cases e
    | some x => rw [hb] at e; rw [dens_ext h hb]; exact e
  | .mp b, V, e => by
    simp only [den] at e ⊢
    cases hb : ρ b with
    | none => rw [hb] at e; cases e
    | some x => rw [hb] at e; rw [h b x hb]; exact e
  | .nilm, V, e => e
  | .gl g o, V, e => e
theorem dens_ext {ρ σ : Ren} (h : Ext ρ σ) : ∀ {l : List SV} {vs : List Value}, dens ρ l = some vs → dens σ l = some vs
  | [], vs, e => e
  | v :: l, vs, e => by
    simp only [dens] at e ⊢
    cases hv : den ρ v with
    | none => rw [hv] at e; cases e
    | some V =>
      rw [hv] at e
      rw [den_ext h hv]
      cases hl : dens ρ l with
      | none => rw [hl] at e; cases e
      | some us => rw [hl] at e; rw [dens_ext h hl]; exact e
end
theorem dens_cons {ρ : Ren} {v : SV} {l : List SV} {vs : List Value} (h : dens ρ (v :: l) = some vs) : ∃ V us, vs = V :: us ∧ den ρ v = some V ∧ dens ρ l = some us := by
  simp only [dens] at h
  split at h <;> try simp at h
  rename_i V hV
  split at h <;> try simp at h
  rename_i us hus
  exact ⟨V, us, h.symm, hV, hus⟩
theorem dens_mk {ρ : Ren} {v : SV} {l : List SV} {V : Value} {us : List Value} (h1 : den ρ v = some V) (h2 : dens ρ l = some us) : dens ρ (v :: l) = some (V :: us) := by simp [dens, h1, h2]
theorem dens_len {ρ : Ren} : ∀ {l : List SV} {vs : List Value}, dens ρ l = some vs → vs.length = l.length
  | [], vs, h => by simp [dens] at h; subst h; rfl
  | v :: l, vs, h => by
    obtain ⟨V, us, rfl, _, h2⟩ := dens_cons h
    simp [dens_len h2]
theorem dens_get {ρ : Ren} : ∀ {l : List SV} {vs : List Value} {i : Nat} {v : SV}, dens ρ l = some vs → l[i]? = some v → ∃ V, vs[i]? = some V ∧ den ρ v = some V
  | [], vs, i, v, h, hi => by cases hi
  | x :: l, vs, 0, v, h, hi => by
    obtain ⟨V, us, rfl, h1, h2⟩ := dens_cons h
    simp at hi
    subst hi
    exact ⟨V, rfl, h1⟩
  | x :: l, vs, i + 1, v, h, hi => by
    obtain ⟨V, us, rfl, h1, h2⟩ := dens_cons h
    obtain ⟨W, h3, h4⟩ := dens_get h2 (by simpa using hi)
    exact ⟨W, by simpa using h3, h4⟩
theorem dens_app {ρ : Ren} : ∀ {l m : List SV} {vs us : List Value}, dens ρ l = some vs → dens ρ m = some us → dens ρ (l ++ m) = some (vs ++ us)
  | [], m, vs, us, h, k => by simp [dens] at h; subst h; simpa using k
  | v :: l, m, vs, us, h, k => by
    obtain ⟨V, ws, rfl, h1, h2⟩ := dens_cons h
    exact dens_mk h1 (dens_app h2 k)
theorem dens_drop {ρ : Ren} : ∀ {l : List SV} {vs : List Value} (n : Nat), dens ρ l = some vs → dens ρ (l.drop n) = some (vs.drop n)
  | l, vs, 0, h => by simpa using h
  | [], vs, n + 1, h => by simp [dens] at h; subst h; rfl
  | v :: l, vs, n + 1, h => by
    obtain ⟨V, ws, rfl, h1, h2⟩ := dens_cons h
    simpa using dens_drop n h2
theorem dens_take {ρ : Ren} : ∀ {l : List SV} {vs : List Value} (n : Nat), dens ρ l = some vs → dens ρ (l.take n) = some (vs.take n)
  | l, vs, 0, h => by simp [dens]
  | [], vs, n + 1, h => by simp [dens] at h; subst h; rfl
  | v :: l, vs, n + 1, h => by
    obtain ⟨V, ws, rfl, h1, h2⟩ := dens_cons h
    simpa using dens_mk h1 (dens_take n h2)
theorem dens_set {ρ : Ren} : ∀ {l : List SV} {vs : List Value} (n : Nat) {v : SV} {V : Value}, dens ρ l = some vs → den ρ v = some V → dens ρ (l.set n v) = some (vs.set n V)
  | [], vs, n, v, V, h, k => by simp [dens] at h; subst h; rfl
  | x :: l, vs, 0, v, V, h, k => by
    obtain ⟨W, ws, rfl, h1, h2⟩ := dens_cons h
    exact dens_mk k h2
  | x :: l, vs, n + 1, v, V, h, k => by
    obtain ⟨W, ws, rfl, h1, h2⟩ := dens_cons h
    exact dens_mk h1 (dens_set n h2 k)
theorem dens_rep {ρ : Ren} {z : List SV} {zs : List Value} (h : dens ρ z = some zs) : ∀ n, dens ρ (List.replicate n z).flatten = some (List.replicate n zs).flatten
  | 0 => rfl
  | n + 1 => by simpa [List.replicate_succ] using dens_app h (dens_rep h n)
inductive Tr (α : Type) | nil | node (l : Tr α) (v : Option α) (r : Tr α)
noncomputable def path (f : Nat) : Nat → List Bool := Nat.rec (motive := fun _ => Nat → List Bool) (fun _ => [])
  (fun _ ih n => Bool.rec (Bool.rec (false :: ih (Nat.sub (Nat.div n 2) 1)) (true :: ih (Nat.div n 2)) (Nat.beq (Nat.mod n 2) 1)) [] (Nat.beq n 0)) f
noncomputable def Tr.getP {α : Type} (t : Tr α) : List Bool → Option α := Tr.rec (motive := fun _ => List Bool → Option α) (fun _ => none)
  (fun _ v _ gl gr p => List.rec v (fun b p _ => Bool.rec (gr p) (gl p) b) p) t
noncomputable def Tr.get {α : Type} (t : Tr α) (n : Nat) : Option α := t.getP (path n n)
noncomputable def Tr.setP {α : Type} (p : List Bool) : Tr α → Option α → Tr α := List.rec (motive := fun _ => Tr α → Option α → Tr α)
  (fun t x => Tr.rec (motive := fun _ => Tr α) (.node .nil x .nil) (fun l _ r _ _ => .node l x r) t)
  (fun b _ ih t x => Bool.rec (motive := fun _ => Tr α)
    (Tr.rec (motive := fun _ => Tr α) (.node .nil none (ih .nil x)) (fun l v r _ _ => .node l v (ih r x)) t)
    (Tr.rec (motive := fun _ => Tr α) (.node (ih .nil x) none .nil) (fun l v r _ _ => .node (ih l x) v r) t) b) p
noncomputable def Tr.set {α : Type} (t : Tr α) (n : Nat) (x : Option α) : Tr α := Tr.setP (path n n) t x
def Tr.ents {α : Type} : Tr α → List α
  | .nil => []
  | .node l v r => v.toList ++ (l.ents ++ r.ents)
theorem path_step (f n : Nat) : (∃ p, path (f + 1) (n + 1) = true :: p ∧ p = path f ((n + 1) / 2) ∧ (n + 1) % 2 = 1) ∨ (∃ p, path (f + 1) (n + 1) = false :: p ∧ p = path f ((n + 1) / 2 - 1) ∧ (n + 1) % 2 = 0) := by
  have h0 : path (f + 1) (n + 1) = Bool.rec (false :: path f ((n + 1) / 2 - 1)) (true :: path f ((n + 1) / 2)) (Nat.beq ((n + 1) % 2) 1) := rfl
  rw [h0]
  have : (n + 1) % 2 = 0 ∨ (n + 1) % 2 = 1 := by omega
  rcases this with h | h
  · rw [h]; exact .inr ⟨_, rfl, rfl, rfl⟩
  · rw [h]; exact .inl ⟨_, rfl, rfl, rfl⟩
theorem path_inj : ∀ (f g n m : Nat), n ≤ f → m ≤ g → path f n = path g m → n = m
  | 0, g, n, m, hn, hm, e => by
    obtain rfl : n = 0 := by omega
    cases m with
    | zero => rfl
    | succ m =>
      obtain ⟨g, rfl⟩ : ∃ k, g = k + 1 := ⟨g - 1, by omega⟩
      rcases path_step g m with ⟨p, h, _⟩ | ⟨p, h, _⟩ <;> rw [h] at e <;> cases e
  | f + 1, g, 0, m, hn, hm, e => by
    cases m with
    | zero => rfl
    | succ m =>
      obtain ⟨g, rfl⟩ : ∃ k, g = k + 1 := ⟨g - 1, by omega⟩
      rcases path_step g m with ⟨p, h, _⟩ | ⟨p, h, _⟩ <;> rw [h] at e <;> cases e
  | f + 1, g, n + 1, 0, hn, hm, e => by
    have h0 : path g 0 = [] := by cases g <;> rfl
    rw [h0] at e
    rcases path_step f n with ⟨p, h, _⟩ | ⟨p, h, _⟩ <;> rw [h] at e <;> cases e
  | f + 1, g, n + 1, m + 1, hn, hm, e => by
    obtain ⟨g, rfl⟩ : ∃ k, g = k + 1 := ⟨g - 1, by omega⟩
    rcases path_step f n with ⟨p, h1, h2, h3⟩ | ⟨p, h1, h2, h3⟩ <;> rcases path_step g m with ⟨q, k1, k2, k3⟩ | ⟨q, k1, k2, k3⟩ <;> rw [h1, k1] at e
    · have e := (List.cons.inj e).2
      rw [h2, k2] at e
      have := path_inj f g _ _ (by omega) (by omega) e
      omega
    · cases (List.cons.inj e).1
    · cases (List.cons.inj e).1
    · have e := (List.cons.inj e).2
      rw [h2, k2] at e
      have := path_inj f g _ _ (by omega) (by omega) e
      omega
theorem Tr.getP_nil {α : Type} (p : List Bool) : (Tr.nil : Tr α).getP p = none := rfl
theorem Tr.getP_setP {α : Type} : ∀ (p : List Bool) (t : Tr α) (x : Option α) (q : List Bool), (Tr.setP p t x).getP q = if q = p then x else t.getP q
  | [], .nil, x, [] => rfl
  | [], .nil, x, true :: q => by simp [Tr.setP, Tr.getP]
  | [], .nil, x, false :: q => by simp [Tr.setP, Tr.getP]
  | [], .node l v r, x, [] => rfl
  | [], .node l v r, x, true :: q => by simp [Tr.setP, Tr.getP]
  | [], .node l v r, x, false :: q => by simp [Tr.setP, Tr.getP]
  | true :: p, .nil, x, [] => by simp [Tr.setP, Tr.getP]
  | false :: p, .nil, x, [] => by simp [Tr.setP, Tr.getP]
  | true :: p, .node l v r, x, [] => by simp [Tr.setP, Tr.getP]
  | false :: p, .node l v r, x, [] => by simp [Tr.setP, Tr.getP]
  | true :: p, .nil, x, true :: q => by
    have h := Tr.getP_setP p .nil x q
    show (Tr.setP p .nil x).getP q = _
    rw [h]
    simp [Tr.getP_nil]
  | true :: p, .nil, x, false :: q => by simp [Tr.setP, Tr.getP]
  | false :: p, .nil, x, true :: q => by simp [Tr.setP, Tr.getP]
  | false :: p, .nil, x, false :: q => by
    have h := Tr.getP_setP p .nil x q
    show (Tr.setP p .nil x).getP q = _
    rw [h]
    simp [Tr.getP_nil]
  | true :: p, .node l v r, x, true :: q => by
    have h := Tr.getP_setP p l x q
    show (Tr.setP p l x).getP q = if true :: q = true :: p then x else l.getP q
    rw [h]
    simp
  | true :: p, .node l v r, x, false :: q => by simp [Tr.setP, Tr.getP]
  | false :: p, .node l v r, x, true :: q => by simp [Tr.setP, Tr.getP]
  | false :: p, .node l v r, x, false :: q => by
    have h := Tr.getP_setP p r x q
    show (Tr.setP p r x).getP q = if false :: q = false :: p then x else r.getP q
    rw [h]
    simp
theorem Tr.get_set {α : Type} (t : Tr α) (n m : Nat) (x : Option α) : (t.set n x).get m = if m = n then x else t.get m := by
  unfold Tr.get Tr.set
  rw [Tr.getP_setP]
  by_cases h : m = n
  · subst h; simp
  · rw [if_neg h, if_neg (fun e => h (path_inj _ _ _ _ (Nat.le_refl _) (Nat.le_refl _) e))]
theorem Tr.ents_none {α : Type} : ∀ (p : List Bool), (Tr.setP p (Tr.nil : Tr α) none).ents = []
  | [] => rfl
  | true :: p => by simpa [Tr.ents, Tr.setP] using Tr.ents_none p
  | false :: p => by simpa [Tr.ents, Tr.setP] using Tr.ents_none p
theorem Tr.ents_some {α : Type} (y : α) : ∀ (p : List Bool) (t : Tr α), (Tr.setP p t (some y)).ents.Perm (y :: (Tr.setP p t none).ents)
  | [], .nil => List.Perm.refl _
  | [], .node l v r => List.Perm.refl _
  | true :: p, .nil => by simpa [Tr.ents, Tr.setP] using Tr.ents_some y p .nil
  | false :: p, .nil => by simpa [Tr.ents, Tr.setP] using Tr.ents_some y p .nil
  | true :: p, .node l v r => by
    have h := Tr.ents_some y p l
    show (v.toList ++ ((Tr.setP p l (some y)).ents ++ r.ents)).Perm (y :: (v.toList ++ ((Tr.setP p l none).ents ++ r.ents)))
    exact (List.Perm.append_left _ (h.append_right _)).trans List.perm_middle
  | false :: p, .node l v r => by
    have h := Tr.ents_some y p r
    show (v.toList ++ (l.ents ++ (Tr.setP p r (some y)).ents)).Perm (y :: (v.toList ++ (l.ents ++ (Tr.setP p r none).ents)))
    have h2 : (l.ents ++ (Tr.setP p r (some y)).ents).Perm (y :: (l.ents ++ (Tr.setP p r none).ents)) := (List.Perm.append_left _ h).trans List.perm_middle
    exact (List.Perm.append_left _ h2).trans List.perm_middle
theorem Tr.ents_get {α : Type} {y : α} : ∀ {p : List Bool} {t : Tr α}, t.getP p = some y → t.ents.Perm (y :: (Tr.setP p t none).ents)
  | [], .nil, h => by cases h
  | _ :: _, .nil, h => by cases h
  | [], .node l v r, h => by
    have : v = some y := h
    subst this
    exact List.Perm.refl _
  | true :: p, .node l v r, h => by
    have h := Tr.ents_get (t := l) (p := p) h
    show (v.toList ++ (l.ents ++ r.ents)).Perm (y :: (v.toList ++ ((Tr.setP p l none).ents ++ r.ents)))
    exact (List.Perm.append_left _ (h.append_right _)).trans List.perm_middle
  | false :: p, .node l v r, h => by
    have h := Tr.ents_get (t := r) (p := p) h
    show (v.toList ++ (l.ents ++ r.ents)).Perm (y :: (v.toList ++ (l.ents ++ (Tr.setP p r none).ents)))
    have h2 : (l.ents ++ r.ents).Perm (y :: (l.ents ++ (Tr.setP p r none).ents)) := (List.Perm.append_left _ h).trans List.perm_middle
    exact (List.Perm.append_left _ h2).trans List.perm_middle
theorem Tr.ents_out {α : Type} : ∀ (p : List Bool) (t : Tr α), ∃ l, t.ents.Perm (l ++ (Tr.setP p t none).ents)
  | p, t => by
    cases h : t.getP p with
    | some y => exact ⟨[y], Tr.ents_get h⟩
    | none => exact ⟨[], by
        revert t
        induction p with
        | nil => intro t h; cases t with
          | nil => exact List.Perm.refl _
          | node l v r => have : v = none := h; subst this; exact List.Perm.refl _
        | cons b p ih =>
          intro t h
          cases t with
          | nil =>
            show List.Perm [] ([] ++ _)
            rw [Tr.ents_none]
            exact List.Perm.refl _
          | node l v r =>
            cases b with
            | true => exact List.Perm.append_left _ ((ih l h).append_right _)
            | false => exact List.Perm.append_left _ (List.Perm.append_left _ (ih r h))⟩
inductive D8 | d0 | d1 | d2 | d3 | d4 | d5 | d6 | d7
  deriving DecidableEq
inductive N8 (β : Type) | mk (a0 a1 a2 a3 a4 a5 a6 a7 : β)
noncomputable def N8.sel {β : Type} (t : N8 β) (d : D8) : β := D8.rec (motive := fun _ => N8 β → β) (fun t => N8.rec (fun a0 a1 a2 a3 a4 a5 a6 a7 => a0) t) (fun t => N8.rec (fun a0 a1 a2 a3 a4 a5 a6 a7 => a1) t) (fun t => N8.rec (fun a0 a1 a2 a3 a4 a5 a6 a7 => a2) t) (fun t => N8.rec (fun a0 a1 a2 a3 a4 a5 a6 a7 => a3) t) (fun t => N8.rec (fun a0 a1 a2 a3 a4 a5 a6 a7 => a4) t) (fun t => N8.rec (fun a0 a1 a2 a3 a4 a5 a6 a7 => a5) t) (fun t => N8.rec (fun a0 a1 a2 a3 a4 a5 a6 a7 => a6) t) (fun t => N8.rec (fun a0 a1 a2 a3 a4 a5 a6 a7 => a7) t) d t
noncomputable def N8.upd {β : Type} (t : N8 β) (d : D8) (x : β) : N8 β := D8.rec (motive := fun _ => N8 β → β → N8 β) (fun t x => N8.rec (fun a0 a1 a2 a3 a4 a5 a6 a7 => .mk x a1 a2 a3 a4 a5 a6 a7) t) (fun t x => N8.rec (fun a0 a1 a2 a3 a4 a5 a6 a7 => .mk a0 x a2 a3 a4 a5 a6 a7) t) (fun t x => N8.rec (fun a0 a1 a2 a3 a4 a5 a6 a7 => .mk a0 a1 x a3 a4 a5 a6 a7) t) (fun t x => N8.rec (fun a0 a1 a2 a3 a4 a5 a6 a7 => .mk a0 a1 a2 x a4 a5 a6 a7) t) (fun t x => N8.rec (fun a0 a1 a2 a3 a4 a5 a6 a7 => .mk a0 a1 a2 a3 x a5 a6 a7) t) (fun t x => N8.rec (fun a0 a1 a2 a3 a4 a5 a6 a7 => .mk a0 a1 a2 a3 a4 x a6 a7) t) (fun t x => N8.rec (fun a0 a1 a2 a3 a4 a5 a6 a7 => .mk a0 a1 a2 a3 a4 a5 x a7) t) (fun t x => N8.rec (fun a0 a1 a2 a3 a4 a5 a6 a7 => .mk a0 a1 a2 a3 a4 a5 a6 x) t) d t x
theorem N8.sel_upd {β : Type} (t : N8 β) (d d' : D8) (x : β) : (t.upd d x).sel d' = if d' = d then x else t.sel d' := by
  cases t; cases d <;> cases d' <;> rfl
noncomputable def d8 (n : Nat) : D8 := Nat.rec .d0 (fun n _ => Nat.rec .d1 (fun n _ => Nat.rec .d2 (fun n _ => Nat.rec .d3 (fun n _ => Nat.rec .d4 (fun n _ => Nat.rec .d5 (fun n _ => Nat.rec .d6 (fun n _ => .d7) n) n) n) n) n) n) n
inductive Pt | lo (a b c : D8) | hi
noncomputable def pt (n : Nat) : Pt := Bool.rec .hi (.lo (d8 (Nat.div n 64)) (d8 (Nat.mod (Nat.div n 8) 8)) (d8 (Nat.mod n 8))) (Nat.blt n 512)
inductive En | mk (t : N8 (N8 (N8 (Option SV)))) (r : Tr SV)
noncomputable def En.get (e : En) (n : Nat) : Option SV := Pt.rec (motive := fun _ => En → Option SV) (fun a b c e => En.rec (fun t _ => ((t.sel a).sel b).sel c) e) (fun e => En.rec (fun _ r => r.get n) e) (pt n) e
noncomputable def En.set (e : En) (n : Nat) (x : Option SV) : En := Pt.rec (motive := fun _ => En → Option SV → En) (fun a b c e x => En.rec (fun t r => .mk (t.upd a ((t.sel a).upd b (((t.sel a).sel b).upd c x))) r) e) (fun e x => En.rec (fun t r => .mk t (r.set n x)) e) (pt n) e x
def N8.all {β : Type} (x : β) : N8 β := .mk x x x x x x x x
def En.nil : En := .mk (N8.all (N8.all (N8.all none))) .nil
def un8 : D8 → Nat
  | .d0 => 0 | .d1 => 1 | .d2 => 2 | .d3 => 3 | .d4 => 4 | .d5 => 5 | .d6 => 6 | .d7 => 7
theorem un8_d8 : ∀ {n : Nat}, n < 8 → un8 (d8 n) = n
  | 0, _ => rfl | 1, _ => rfl | 2, _ => rfl | 3, _ => rfl | 4, _ => rfl | 5, _ => rfl | 6, _ => rfl | 7, _ => rfl
  | n + 8, h => by omega
theorem d8_inj {n m : Nat} (hn : n < 8) (hm : m < 8) (h : d8 n = d8 m) : n = m := by rw [← un8_d8 hn, ← un8_d8 hm, h]
theorem pt_lo {n : Nat} {a b c : D8} (h : pt n = .lo a b c) : n < 512 ∧ a = d8 (n / 64) ∧ b = d8 (n / 8 % 8) ∧ c = d8 (n % 8) := by
  unfold pt at h
  cases hb : Nat.blt n 512 with
  | false => rw [hb] at h; cases h
  | true =>
    rw [hb] at h
    cases h
    exact ⟨Nat.le_of_ble_eq_true hb, rfl, rfl, rfl⟩
theorem pt_inj {n m : Nat} {a b c : D8} (h : pt n = .lo a b c) (k : pt m = .lo a b c) : n = m := by
  obtain ⟨h1, h2, h3, h4⟩ := pt_lo h
  obtain ⟨k1, k2, k3, k4⟩ := pt_lo k
  have e1 := d8_inj (by omega) (by omega) (h2.symm.trans k2)
  have e2 := d8_inj (by omega) (by omega) (h3.symm.trans k3)
  have e3 := d8_inj (by omega) (by omega) (h4.symm.trans k4)
  omega
theorem En.get_set (e : En) (n m : Nat) (x : Option SV) : (e.set n x).get m = if m = n then x else e.get m := by
  obtain ⟨t, r⟩ := e
  unfold En.get En.set
  cases hn : pt n with
  | lo a b c =>
    cases hm : pt m with
    | lo a' b' c' =>
      show (((t.upd a ((t.sel a).upd b (((t.sel a).sel b).upd c x))).sel a').sel b').sel c' = if m = n then x else ((t.sel a').sel b').sel c'
      by_cases e : m = n
      · subst e
        rw [hn] at hm
        cases hm
        simp [N8.sel_upd]
      · have hne : ¬ (a' = a ∧ b' = b ∧ c' = c) := by
          rintro ⟨rfl, rfl, rfl⟩
          exact e (pt_inj hm hn)
        rw [if_neg e]
        by_cases h1 : a' = a
        · subst h1
          by_cases h2 : b' = b
          · subst h2
            have h3 : ¬ c' = c := fun h3 => hne ⟨rfl, rfl, h3⟩
            simp [N8.sel_upd, h3]
          · simp [N8.sel_upd, h2]
        · simp [N8.sel_upd, h1]
    | hi =>
      have e : m ≠ n := fun e => by subst e; rw [hn] at hm; cases hm
      rw [if_neg e]
  | hi =>
    cases hm : pt m with
    | lo a' b' c' =>
      have e : m ≠ n := fun e => by subst e; rw [hn] at hm; cases hm
      rw [if_neg e]
    | hi => exact Tr.get_set r n m x
theorem N8.sel_all {β : Type} (x : β) (d : D8) : (N8.all x).sel d = x := by cases d <;> rfl
theorem En.get_nil (n : Nat) : En.nil.get n = none := by
  unfold En.get En.nil
  cases pt n with
  | lo a b c =>
    show (((N8.all (N8.all (N8.all none))).sel a).sel b).sel c = none
    rw [N8.sel_all, N8.sel_all, N8.sel_all]
  | hi => rfl
end Go.Cr
namespace Go.Cr
open Go.Sl
structure Ob where
  id : Nat
  T : Nat
  sz : Nat
  ex : Bool
  cs : List SV
structure St where
  h : Tr Ob
  nx : Nat
inductive R1 | no | ok (v : SV) (s : St)
inductive Ex | normal | exit (id : Nat) | ret
inductive RE | no | ok (x : Ex) (e : En) (s : St)
mutual
def ofV : Nat → Value → Option SV
  | 0, _ => none
  | f + 1, v => match v with
    | .bool b => some (.bool b)
    | .int k n => some (.int k n)
    | .float k n => some (.flt k n)
    | .string s => some (.str (s.data.toList.map UInt8.toNat))
    | .pointer none => some .nilp
    | .slice none 0 0 => some .nils
    | .nilFunc => some .nilf
    | .map none => some .nilm
    | .nilIface => some .nili
    | .iface t v => (match ofV f v with | some x => some (.ifc t x) | none => none)
    | .agg ⟨cs⟩ => (match ofVs f cs with | some l => some (.agg l) | none => none)
    | .func (.func g) ⟨[]⟩ ⟨[]⟩ => some (.fn g [])
    | _ => none
def ofVs : Nat → List Value → Option (List SV)
  | 0, _ => none
  | _ + 1, [] => some []
  | f + 1, v :: l => (match ofV f v with | some x => (match ofVs f l with | some r => some (x :: r) | none => none) | none => none)
end
noncomputable def ev (x : Operand) : En → Option SV := Operand.rec (motive := fun _ => En → Option SV) (fun t e => e.get t) (fun v _ => ofV 100000 v) (fun g _ => some (.gl g 0)) (fun f _ => some (.fn f [])) x
noncomputable def evl (l : List Operand) (e : En) : Option (List SV) := List.rec (motive := fun _ => Option (List SV)) (some []) (fun x _ ih => Option.rec none (fun v => Option.rec none (fun vs => some (v :: vs)) ih) (ev x e)) l
noncomputable def fN {α : Type} (n : Nat) (k : Nat → α) : α := Nat.rec (motive := fun _ => α) (k 0) (fun p _ => k (Nat.succ p)) n
noncomputable def fI {α : Type} (n : Int) (k : Int → α) : α := Int.rec (motive := fun _ => α) (fun m => fN m fun m => k (.ofNat m)) (fun m => fN m fun m => k (.negSucc m)) n
def wPos (k : IntKind) (m : Nat) : Int := match k with
    | .i64 => cond (Nat.blt m 9223372036854775808) (.ofNat m) (k.wrap m)
    | .u8 => .ofNat (Nat.mod m 256)
    | .u16 => .ofNat (Nat.mod m 65536)
    | .u32 => .ofNat (Nat.mod m 4294967296)
    | .u64 => .ofNat (Nat.mod m 18446744073709551616)
    | _ => k.wrap m
def wNeg (k : IntKind) (m : Nat) : Int := match k with
    | .i64 => cond (Nat.blt m 9223372036854775808) (.negSucc m) (k.wrap (.negSucc m))
    | _ => k.wrap (.negSucc m)
noncomputable def wrap (k : IntKind) (n : Int) : Int := Int.rec (motive := fun _ => Int) (wPos k) (wNeg k) n
def bitN (o : BinOp) (k : IntKind) (a b : Nat) : Option Int := match o with
    | .and => some (.ofNat (Nat.land a b))
    | .or => cond (Nat.blt a (2 ^ k.bits) && Nat.blt b (2 ^ k.bits)) (some (wPos k (Nat.lor a b))) none
    | .xor => cond (Nat.blt a (2 ^ k.bits) && Nat.blt b (2 ^ k.bits)) (some (wPos k (Nat.xor a b))) none
    | _ => none
def bitZ (o : BinOp) (k : IntKind) (a b : Int) : Option Int := match o with
    | .and => some (k.wrap (BitVec.ofInt k.bits a &&& BitVec.ofInt k.bits b).toNat)
    | .or => some (k.wrap (BitVec.ofInt k.bits a ||| BitVec.ofInt k.bits b).toNat)
    | .xor => some (k.wrap (BitVec.ofInt k.bits a ^^^ BitVec.ofInt k.bits b).toNat)
    | .andNot => some (k.wrap (BitVec.ofInt k.bits a &&& ~~~BitVec.ofInt k.bits b).toNat)
    | _ => none
def ltI (a b : Int) : Bool := match a, b with
  | .ofNat a, .ofNat b => Nat.blt a b
  | .negSucc _, .ofNat _ => true
  | .ofNat _, .negSucc _ => false
  | .negSucc a, .negSucc b => Nat.blt b a
def eqI (a b : Int) : Bool := match a, b with
  | .ofNat a, .ofNat b => Nat.beq a b
  | .negSucc a, .negSucc b => Nat.beq a b
  | _, _ => false
def eqLN : List Nat → List Nat → Bool
  | [], [] => true
  | a :: l, b :: m => cond (Nat.beq a b) (eqLN l m) false
  | _, _ => false
def eqK (a b : IntKind) : Bool := Nat.beq a.ctorIdx b.ctorIdx
def bI (f : IntKind → Int → Int → Option SV) (a b : SV) : Option SV := match a with | .int k m => (match b with | .int j n => cond (eqK k j) (f k m n) none | _ => none) | _ => none
def bJ (f : IntKind → Int → Nat → Option SV) (a b : SV) : Option SV := match a with | .int k m => (match b with | .int _ (.ofNat n) => f k m n | _ => none) | _ => none
noncomputable def bAdd (a b : SV) : Option SV := bI (fun k m n => some (.int k (wrap k (Int.add m n)))) a b
noncomputable def bSub (a b : SV) : Option SV := bI (fun k m n => some (.int k (wrap k (Int.sub m n)))) a b
noncomputable def bMul (a b : SV) : Option SV := bI (fun k m n => some (.int k (wrap k (Int.mul m n)))) a b
noncomputable def bQuo (a b : SV) : Option SV := bI (fun k m n => Bool.rec (some (.int k (wrap k (Int.tdiv m n)))) none (eqI n 0)) a b
noncomputable def bRem (a b : SV) : Option SV := bI (fun k m n => Bool.rec (some (.int k (Int.tmod m n))) none (eqI n 0)) a b
def shlI (m : Int) (n : Nat) : Int := match m with | .ofNat m => .ofNat (Nat.mul m (Nat.pow 2 n)) | m => m * 2 ^ n
def shrI (m : Int) (n : Nat) : Int := match m with | .ofNat m => .ofNat (Nat.div m (Nat.pow 2 n)) | m => m.fdiv (2 ^ n)
def minN (a b : Nat) : Nat := cond (Nat.ble a b) a b
noncomputable def bShl (a b : SV) : Option SV := bJ (fun k m n => some (.int k (wrap k (shlI m (minN n k.bits))))) a b
noncomputable def bShr (a b : SV) : Option SV := bJ (fun k m n => some (.int k (shrI m (minN n k.bits)))) a b
def bitA (o : BinOp) (k : IntKind) (m n : Int) : Option Int := bitZ o k m n
noncomputable def bBit (o : BinOp) (a b : SV) : Option SV := bI (fun k m n => Option.rec none (fun r => some (.int k r)) (bitA o k m n)) a b
noncomputable def bLt (a b : SV) : Option SV := bI (fun k m n => some (.bool (ltI m n))) a b
noncomputable def bLe (a b : SV) : Option SV := bI (fun k m n => some (.bool (not (ltI n m)))) a b
noncomputable def bGt (a b : SV) : Option SV := bI (fun k m n => some (.bool (ltI n m))) a b
noncomputable def bGe (a b : SV) : Option SV := bI (fun k m n => some (.bool (not (ltI m n)))) a b
inductive EqW | no | num | bool | str | ptr | sli | fn | ifc
def eqSV (a b : SV) : EqW × Bool := match a, b with
  | .int k m, .int j n => cond (eqK k j) (.num, eqI m n) (.no, false)
  | .bool a, .bool b => (.bool, a == b)
  | .str a, .str b => (.str, eqLN a b)
  | .ptr _ _, .nilp => (.ptr, false)
  | .nilp, .nilp => (.ptr, true)
  | .sli .., .nils => (.sli, false)
  | .nils, .nils => (.sli, true)
  | .fn .., .nilf => (.fn, false)
  | .ifc .., .nili => (.ifc, false)
  | .nili, .nili => (.ifc, true)
  | _, _ => (.no, false)
end Go.Cr
namespace Go.Cr
open Go.Sl
def HOc (ρ : Ren) (o : Ob) : HProp := fun w0 h => ∃ x pre vs post, ρ o.id = some x ∧ dens ρ o.cs = some vs ∧ Cel x.1 o.T (pre ++ vs ++ post) w0 h ∧ pre.length = x.2.1 ∧ x.2.2 * o.sz ≤ post.length ∧ (o.ex = true → x.2.2 = 0)
def ents : List Value → Nat → List MapEntry
  | k :: v :: l, n => ⟨k, v, n⟩ :: ents l (n + 1)
  | _, _ => []
def HOm (ρ : Ren) (o : Ob) : HProp := fun w0 h => ∃ x vs, ρ o.id = some x ∧ dens ρ o.cs = some vs ∧ Blk x.1 (.map (ents vs 0).toArray (ents vs 0).length) w0 h
def wantT (i : Nat) : Int := match i with | 0 => 0 | 15 => 8 | 22 => 16 | _ => 24
def Bad (i : Nat) (vs : List Value) : Prop := ∃ n : Int, vs[i]? = some (.int .u8 n) ∧ 0 ≤ n ∧ n < 256 ∧ n ≠ wantT i
def HOg (ρ : Ren) (o : Ob) : HProp := fun w0 h => ∃ vs, dens ρ o.cs = some vs ∧ Rd (some ⟨o.T - 8589934592, 0, none⟩) vs.length 1 vs w0 h ∧ (o.ex = true → Bad o.sz vs)
def HO (ρ : Ren) (o : Ob) : HProp := cond (Nat.blt o.T 4294967296) (HOc ρ o) (cond (Nat.blt o.T 8589934592) (HOm ρ o) (HOg ρ o))
theorem HO_c {ρ : Ren} {o : Ob} (h : Nat.blt o.T 4294967296 = true) : HO ρ o = HOc ρ o := by unfold HO; rw [h]; rfl
theorem HO_m {ρ : Ren} {o : Ob} (h : Nat.blt o.T 4294967296 = false) (h2 : Nat.blt o.T 8589934592 = true) : HO ρ o = HOm ρ o := by unfold HO; rw [h, h2]; rfl
theorem HO_g {ρ : Ren} {o : Ob} (h : Nat.blt o.T 4294967296 = false) (h2 : Nat.blt o.T 8589934592 = false) : HO ρ o = HOg ρ o := by unfold HO; rw [h, h2]; rfl
theorem HO.ext {ρ σ : Ren} (k : Ext ρ σ) {o : Ob} {w0 : World} {h : Hp} : HO ρ o w0 h → HO σ o w0 h := by
  cases h1 : Nat.blt o.T 4294967296 with
  | true =>
    rw [HO_c h1, HO_c h1]
    rintro ⟨x, pre, vs, post, h1, h2, h3⟩
    exact ⟨x, pre, vs, post, k _ _ h1, dens_ext k h2, h3⟩
  | false =>
    cases h2 : Nat.blt o.T 8589934592 with
    | true =>
      rw [HO_m h1 h2, HO_m h1 h2]
      rintro ⟨x, vs, h1, h2, h3⟩
      exact ⟨x, vs, k _ _ h1, dens_ext k h2, h3⟩
    | false =>
      rw [HO_g h1 h2, HO_g h1 h2]
      rintro ⟨vs, h2, h3⟩
      exact ⟨vs, dens_ext k h2, h3⟩
def denH (ρ : Ren) (t : Tr Ob) : List HProp := t.ents.map (HO ρ)
theorem sub_map {α : Type} {f g : α → HProp} (hfg : ∀ o w0 h, f o w0 h → g o w0 h) : ∀ (l : List α) (F : List HProp), Sub (l.map f ++ F) (l.map g ++ F)
  | [], F => Sub.refl _
  | o :: l, F => fun w0 w hi => by
    have h1 : Inv w0 (g o :: (l.map f ++ F)) w := Inv.imp (hfg o w0) hi
    have h2 : Inv w0 (l.map f ++ (g o :: F)) w := h1.perm List.perm_middle.symm
    exact (sub_map hfg l (g o :: F) w0 w h2).perm List.perm_middle
theorem sub_ext {ρ σ : Ren} (k : Ext ρ σ) (t : Tr Ob) (F : List HProp) : Sub (denH ρ t ++ F) (denH σ t ++ F) := sub_map (fun o w0 h => HO.ext k) _ _
theorem H_get {ρ : Ren} {t : Tr Ob} {b : Nat} {o : Ob} (h : t.get b = some o) : (denH ρ t).Perm (HO ρ o :: denH ρ (t.set b none)) := (Tr.ents_get h).map (HO ρ)
theorem H_set {ρ : Ren} (t : Tr Ob) (b : Nat) (o : Ob) : (denH ρ (t.set b (some o))).Perm (HO ρ o :: denH ρ (t.set b none)) := (Tr.ents_some o (path b b) t).map (HO ρ)
theorem H_out {ρ : Ren} (t : Tr Ob) (b : Nat) : ∃ L, (denH ρ t).Perm (L ++ denH ρ (t.set b none)) := by
  obtain ⟨l, h⟩ := Tr.ents_out (path b b) t
  exact ⟨l.map (HO ρ), by simpa [denH, Tr.set] using h.map (HO ρ)⟩
theorem sub_out {ρ : Ren} (t : Tr Ob) (b : Nat) (F : List HProp) : Sub (denH ρ t ++ F) (denH ρ (t.set b none) ++ F) := fun w0 w hi => by
  obtain ⟨L, h⟩ := H_out (ρ := ρ) t b
  have := hi.perm (h.append_right F)
  rw [List.append_assoc] at this
  exact this.right
def Fr (ρ : Ren) (n : Nat) : Prop := ∀ m, n ≤ m → ρ m = none
theorem Fr.le {ρ : Ren} {n m : Nat} (h : Fr ρ n) (k : n ≤ m) : Fr ρ m := fun j hj => h j (Nat.le_trans k hj)
def Ren.put (ρ : Ren) (n : Nat) (x : Nat × Nat × Nat) : Ren := fun m => if m = n then some x else ρ m
theorem Ren.put_ext {ρ : Ren} {n : Nat} (x : Nat × Nat × Nat) (h : Fr ρ n) : Ext ρ (ρ.put n x) := fun m y e => by
  unfold Ren.put
  by_cases hm : m = n
  · subst hm; rw [h m (Nat.le_refl _)] at e; cases e
  · rw [if_neg hm]; exact e
theorem Ren.put_fr {ρ : Ren} {n : Nat} (x : Nat × Nat × Nat) (h : Fr ρ n) : Fr (ρ.put n x) (n + 1) := fun m hm => by
  unfold Ren.put
  rw [if_neg (by omega)]
  exact h m (by omega)
theorem Ren.put_self {ρ : Ren} {n : Nat} (x : Nat × Nat × Nat) : ρ.put n x n = some x := by simp [Ren.put]
def Fits (ρ : Ren) (e : En) (E : Env) : Prop := ∀ t v, e.get t = some v → ∃ V, E.get t = some V ∧ den ρ v = some V
theorem Fits.ext {ρ σ : Ren} (k : Ext ρ σ) {e : En} {E : Env} (h : Fits ρ e E) : Fits σ e E := fun t v hv => let ⟨V, h1, h2⟩ := h t v hv; ⟨V, h1, den_ext k h2⟩
theorem Fits.put {ρ : Ren} {e : En} {E : Env} (h : Fits ρ e E) {d : Nat} {v : SV} {V : Value} (hv : den ρ v = some V) : Fits ρ (e.set d (some v)) ((d, V) :: E) := fun t u hu => by
  rw [En.get_set] at hu
  rw [Env.get_cons]
  by_cases ht : t = d
  · subst ht
    rw [if_pos rfl] at hu
    cases hu
    exact ⟨V, by rw [if_pos rfl], hv⟩
  · rw [if_neg ht] at hu
    obtain ⟨W, h1, h2⟩ := h t u hu
    exact ⟨W, by rw [if_neg (fun e => ht e.symm)]; exact h1, h2⟩
theorem strV_of (s : ByteArray) : strV (s.data.toList.map UInt8.toNat) = s := by
  unfold strV
  have : (s.data.toList.map UInt8.toNat).map UInt8.ofNat = s.data.toList := by
    rw [List.map_map]
    conv => rhs; rw [← List.map_id s.data.toList]
    exact List.map_congr_left (fun x _ => by simp)
  rw [this]
mutual
theorem ofV_ok {ρ : Ren} : ∀ (f : Nat) (v : Value) (x : SV), ofV f v = some x → den ρ x = some v
  | 0, v, x, h => by simp [ofV] at h
  | f + 1, v, x, h => by
    unfold ofV at h
    split at h <;> try (cases h; done)
    · cases h; rfl
    · cases h; rfl
    · cases h; rfl
    · cases h; simp [den, strV_of]
    · cases h; rfl
    · cases h; rfl
    · cases h; rfl
    · cases h; rfl
    · cases h; rfl
    · rename_i t v
      split at h <;> try (cases h; done)
      rename_i y hy
      cases h
      simp [den, ofV_ok f v y hy]
    · rename_i cs
      split at h <;> try (cases h; done)
      rename_i l hl
      cases h
      simp [den, ofVs_ok f cs l hl]
    · cases h; rfl
theorem ofVs_ok {ρ : Ren} : ∀ (f : Nat) (v : List Value) (x : List SV), ofVs f v = some x → dens ρ x = some v
  | 0, v, x, h => by simp [ofVs] at h
  | f + 1, [], x, h => by simp [ofVs] at h; subst h; rfl
  | f + 1, v :: l, x, h => by
    unfold ofVs at h
    split at h <;> try (cases h; done)
    rename_i y hy
    split at h <;> try (cases h; done)
    rename_i r hr
    cases h
    exact dens_mk (ofV_ok f v y hy) (ofVs_ok f l r hr)
end
theorem ev_ok {ρ : Ren} {e : En} {E : Env} (hE : Fits ρ e E) {x : Operand} {v : SV} (h : ev x e = some v) : ∃ V, evalE E x = some V ∧ den ρ v = some V := by
  cases x with
  | tmp t => exact hE t v h
  | const c => exact ⟨c, rfl, ofV_ok _ c v h⟩
  | global g => cases h; exact ⟨_, rfl, rfl⟩
  | func f => cases h; exact ⟨_, rfl, rfl⟩
theorem evl_ok {ρ : Ren} {e : En} {E : Env} (hE : Fits ρ e E) : ∀ {l : List Operand} {vs : List SV}, evl l e = some vs → ∃ Vs, evs E l = some Vs ∧ dens ρ vs = some Vs
  | [], vs, h => by cases h; exact ⟨[], rfl, rfl⟩
  | x :: l, vs, h => by
    have h0 : evl (x :: l) e = Option.rec none (fun v => Option.rec none (fun vs => some (v :: vs)) (evl l e)) (ev x e) := rfl
    rw [h0] at h
    cases hx : ev x e with
    | none => rw [hx] at h; cases h
    | some v =>
      rw [hx] at h
      cases hl : evl l e with
      | none => rw [hl] at h; cases h
      | some us =>
        rw [hl] at h
        cases h
        obtain ⟨V, h1, h2⟩ := ev_ok hE hx
        obtain ⟨Us, h3, h4⟩ := evl_ok hE hl
        exact ⟨V :: Us, by simp [evs, h1, h3], dens_mk h2 h4⟩
theorem fN_eq {α : Type} (n : Nat) (k : Nat → α) : fN n k = k n := by cases n <;> rfl
theorem fI_eq {α : Type} (n : Int) (k : Int → α) : fI n k = k n := by
  cases n with
  | ofNat m => exact fN_eq m fun m => k (.ofNat m)
  | negSucc m => exact fN_eq m fun m => k (.negSucc m)
noncomputable def force {α : Type} (v : SV) : (SV → α) → α := match v with
  | .int i n => fun k => fI n fun n => k (.int i n)
  | .bool b => fun k => Bool.rec (k (.bool false)) (k (.bool true)) b
  | .sli b o n c => fun k => fN b fun b => fN o fun o => fN n fun n => fN c fun c => k (.sli b o n c)
  | .ptr b o => fun k => fN b fun b => fN o fun o => k (.ptr b o)
  | .gl b o => fun k => fN b fun b => fN o fun o => k (.gl b o)
  | v => fun k => k v
theorem force_eq {α : Type} (v : SV) (k : SV → α) : force v k = k v := by
  unfold force
  split
  · exact fI_eq _ _
  · rename_i b; cases b <;> rfl
  · simp only [fN_eq]
  · simp only [fN_eq]
  · simp only [fN_eq]
  · rfl
section
variable {C : Ctx} {ty : TypeId} {o : Op} {E : Env} {ρ : Ren} {s s' : St} {v : SV} {V : Value} {F : List HProp} {e : En}
def OkX (C : Ctx) (ty : TypeId) (o : Op) (E : Env) (ρ : Ren) (s s' : St) (v : SV) (F : List HProp) : Prop :=
  OpX C o ty E (denH ρ s.h ++ F) (fun V L' => ∃ σ, Ext ρ σ ∧ Fr σ s'.nx ∧ den σ v = some V ∧ Sub L' (denH σ s'.h ++ F))
theorem okV (h : OpV C o ty E (denH ρ s.h ++ F) V (denH ρ s.h ++ F)) (hv : den ρ v = some V) (hf : Fr ρ s.nx) : OkX C ty o E ρ s s v F :=
  fun d pos aft g a w K Q ha hi hK => h.x d pos aft g a w K Q ha hi (fun V' L' w' hh hi' => hK V' L' w' (by obtain ⟨rfl, rfl⟩ := hh; exact ⟨ρ, Ext.refl _, hf, hv, Sub.refl _⟩) hi')
abbrev Cl := Nat → List SV → St → R1
abbrev Fo := Program → Cl → En → St → R1
def Sound (C : Ctx) (call : Cl) (o : Op) (f : Fo) : Prop := ∀ {e : En} {s s' : St} {v : SV} {E : Env} {ρ : Ren} {ty : TypeId} {F : List HProp}, f C.P call e s = .ok v s' → Fits ρ e E → Fr ρ s.nx → OkX C ty o E ρ s s' v F
noncomputable def w1 (x : Operand) (e : En) (k : SV → R1) : R1 := Option.rec .no k (ev x e)
theorem w1_ok {x : Operand} {k : SV → R1} (h : w1 x e k = .ok v s') : ∃ u, ev x e = some u ∧ k u = .ok v s' := by
  unfold w1 at h
  cases hx : ev x e with
  | none => rw [hx] at h; cases h
  | some u => rw [hx] at h; exact ⟨u, rfl, h⟩
noncomputable def wo {α : Type} (x : Option α) (k : α → R1) : R1 := Option.rec .no k x
theorem wo_ok {α : Type} {x : Option α} {k : α → R1} (h : wo x k = .ok v s') : ∃ u, x = some u ∧ k u = .ok v s' := by
  unfold wo at h
  cases x with
  | none => cases h
  | some u => exact ⟨u, rfl, h⟩
noncomputable def wb (b : Bool) (k : R1) : R1 := Bool.rec .no k b
theorem wb_ok {b : Bool} {k : R1} (h : wb b k = .ok v s') : b = true ∧ k = .ok v s' := by
  unfold wb at h
  cases b with
  | false => cases h
  | true => exact ⟨rfl, h⟩
noncomputable def oMove (x : Operand) : Fo := fun _ _ e s => w1 x e fun v => .ok v s
theorem oMove_ok {call : Cl} {x : Operand} : Sound C call (.move x) (oMove x) := fun {e s s' v E ρ ty F} h hE hf => by
  obtain ⟨u, h1, h2⟩ := w1_ok h
  cases h2
  obtain ⟨V, h3, h4⟩ := ev_ok hE h1
  exact okV (v_move h3) h4 hf
theorem oAssign_ok {call : Cl} {x : Operand} : Sound C call (.assign x) (oMove x) := fun {e s s' v E ρ ty F} h hE hf => by
  obtain ⟨u, h1, h2⟩ := w1_ok h
  cases h2
  obtain ⟨V, h3, h4⟩ := ev_ok hE h1
  exact okV (v_assign h3) h4 hf
noncomputable def pickV (a b : Operand) (e : En) (s : St) (v : SV) : R1 := match v with | .bool t => Bool.rec (w1 b e fun v => .ok v s) (w1 a e fun v => .ok v s) t | _ => .no
noncomputable def oPick (c a b : Operand) : Fo := fun _ _ e s => w1 c e (pickV a b e s)
theorem oPick_ok {call : Cl} {c a b : Operand} : Sound C call (.pick c a b) (oPick c a b) := fun {e s s' v E ρ ty F} h hE hf => by
  obtain ⟨u, h1, h2⟩ := w1_ok h
  obtain ⟨V, h3, h4⟩ := ev_ok hE h1
  unfold pickV at h2
  split at h2 <;> try (cases h2; done)
  rename_i t
  cases h4
  cases t with
  | true =>
    obtain ⟨u, h5, h6⟩ := w1_ok h2
    cases h6
    obtain ⟨W, h7, h8⟩ := ev_ok hE h5
    exact okV (v_pickT h3 h7) h8 hf
  | false =>
    obtain ⟨u, h5, h6⟩ := w1_ok h2
    cases h6
    obtain ⟨W, h7, h8⟩ := ev_ok hE h5
    exact okV (v_pickF h3 h7) h8 hf
def nilV (s : St) (v : SV) : R1 := match v with | .ptr b o => .ok (.ptr b o) s | _ => .no
noncomputable def oNil (x : Operand) : Fo := fun _ _ e s => w1 x e (nilV s)
theorem den_ptr {b o : Nat} {V : Value} (h : den ρ (.ptr b o) = some V) : ∃ x, ρ b = some x ∧ V = .pointer (some ⟨x.1, x.2.1 + o, none⟩) := by
  simp only [den] at h
  split at h
  · rename_i x hx; cases h; exact ⟨x, hx, rfl⟩
  · cases h
theorem den_sli {b o n c : Nat} {V : Value} (h : den ρ (.sli b o n c) = some V) : ∃ x, ρ b = some x ∧ V = .slice (some ⟨x.1, x.2.1 + o, none⟩) n (c + x.2.2) := by
  simp only [den] at h
  split at h
  · rename_i x hx; cases h; exact ⟨x, hx, rfl⟩
  · cases h
theorem den_tup {l : List SV} {V : Value} (h : den ρ (.tup l) = some V) : ∃ vs, dens ρ l = some vs ∧ V = .tuple vs.toArray := by
  simp only [den] at h
  split at h
  · rename_i x hx; cases h; exact ⟨x, hx, rfl⟩
  · cases h
theorem den_agg {l : List SV} {V : Value} (h : den ρ (.agg l) = some V) : ∃ vs, dens ρ l = some vs ∧ V = .agg vs.toArray := by
  simp only [den] at h
  split at h
  · rename_i x hx; cases h; exact ⟨x, hx, rfl⟩
  · cases h
theorem den_ifc {t : Nat} {x : SV} {V : Value} (h : den ρ (.ifc t x) = some V) : ∃ W, den ρ x = some W ∧ V = .iface t W := by
  simp only [den] at h
  split at h
  · rename_i x hx; cases h; exact ⟨x, hx, rfl⟩
  · cases h
theorem den_fn {f : Nat} {l : List SV} {V : Value} (h : den ρ (.fn f l) = some V) : ∃ vs, dens ρ l = some vs ∧ V = .func (.func f) #[] vs.toArray := by
  simp only [den] at h
  split at h
  · rename_i x hx; cases h; exact ⟨x, hx, rfl⟩
  · cases h
theorem den_bnd {f : Nat} {l : List SV} {V : Value} (h : den ρ (.bnd f l) = some V) : ∃ vs, dens ρ l = some vs ∧ V = .func (.func f) vs.toArray #[] := by
  simp only [den] at h
  split at h
  · rename_i x hx; cases h; exact ⟨x, hx, rfl⟩
  · cases h
theorem oNil_ok {call : Cl} {x : Operand} : Sound C call (.nilCheck x) (oNil x) := fun {e s s' v E ρ ty F} h hE hf => by
  obtain ⟨u, h1, h2⟩ := w1_ok h
  obtain ⟨V, h3, h4⟩ := ev_ok hE h1
  unfold nilV at h2
  split at h2 <;> try (cases h2; done)
  cases h2
  obtain ⟨y, _, rfl⟩ := den_ptr h4
  exact okV (v_nil h3) h4 hf
noncomputable def getL (l : List SV) : Nat → Option SV := List.rec (motive := fun _ => Nat → Option SV) (fun _ => none) (fun x _ ih n => Nat.rec (motive := fun _ => Option SV) (some x) (fun p _ => ih p) n) l
theorem getL_eq : ∀ (l : List SV) (n : Nat), getL l n = l[n]?
  | [], n => rfl
  | x :: l, 0 => rfl
  | x :: l, n + 1 => (getL_eq l n).trans (by simp)
noncomputable def exV (i : Nat) (s : St) (v : SV) : R1 := match v with | .tup l => wo (getL l i) fun v => .ok v s | _ => .no
noncomputable def oExt (x : Operand) (i : Nat) : Fo := fun _ _ e s => w1 x e (exV i s)
theorem oExt_ok {call : Cl} {x : Operand} {i : Nat} : Sound C call (.extract x i) (oExt x i) := fun {e s s' v E ρ ty F} h hE hf => by
  obtain ⟨u, h1, h2⟩ := w1_ok h
  obtain ⟨V, h3, h4⟩ := ev_ok hE h1
  unfold exV at h2
  split at h2 <;> try (cases h2; done)
  rename_i l
  obtain ⟨y, h5, h6⟩ := wo_ok h2
  cases h6
  rw [getL_eq] at h5
  obtain ⟨vs, h7, rfl⟩ := den_tup h4
  obtain ⟨W, h8, h9⟩ := dens_get h7 h5
  exact okV (v_extract h3 (by simpa using h8)) h9 hf
end
end Go.Cr
namespace Go.Cr
open Go.Sl
theorem wPos_eq (k : IntKind) (m : Nat) : wPos k m = k.wrap (m : Int) := by
  cases k <;> unfold wPos
  · rfl
  · rfl
  · rfl
  · cases h : Nat.blt m 9223372036854775808 with
    | false => rfl
    | true =>
      have := blt_lt h
      show (m : Int) = _
      rw [IntKind.wrap_i64]
      omega
  all_goals
    show ((m % _ : Nat) : Int) = _
    simp only [IntKind.wrap, IntKind.bits, IntKind.signed]
    simp
theorem wNeg_eq (k : IntKind) (m : Nat) : wNeg k m = k.wrap (.negSucc m) := by
  cases k
  case i64 =>
    unfold wNeg
    cases h : Nat.blt m 9223372036854775808 with
    | false => exact cond_false _ _
    | true =>
      have := blt_lt h
      show Int.negSucc m = _
      rw [IntKind.wrap_i64]
      omega
  all_goals rfl
theorem wrap_eq (k : IntKind) (n : Int) : wrap k n = k.wrap n := by
  cases n with
  | ofNat m => exact wPos_eq k m
  | negSucc m => exact wNeg_eq k m
theorem ltI_eq (a b : Int) : ltI a b = decide (a < b) := by
  rw [Bool.eq_iff_iff, decide_eq_true_eq]
  match a, b with
  | .ofNat a, .ofNat b =>
    show Nat.blt a b = true ↔ (a : Int) < (b : Int)
    constructor
    · intro h; have := blt_lt h; omega
    · intro h; exact Nat.ble_eq_true_of_le (by omega)
  | .ofNat a, .negSucc b => show false = true ↔ (a : Int) < .negSucc b; constructor; (intro h; cases h); (intro h; omega)
  | .negSucc a, .ofNat b => show true = true ↔ .negSucc a < (b : Int); constructor; (intro h; omega); (intro h; rfl)
  | .negSucc a, .negSucc b =>
    show Nat.blt b a = true ↔ Int.negSucc a < Int.negSucc b
    constructor
    · intro h; have := blt_lt h; omega
    · intro h; exact Nat.ble_eq_true_of_le (by omega)
theorem beq_iff {a b : Nat} : Nat.beq a b = true ↔ a = b := ⟨Nat.eq_of_beq_eq_true, fun h => by subst h; exact Nat.beq_refl a⟩
theorem eqI_eq (a b : Int) : eqI a b = decide (a = b) := by
  rw [Bool.eq_iff_iff, decide_eq_true_eq]
  match a, b with
  | .ofNat a, .ofNat b => show Nat.beq a b = true ↔ (a : Int) = (b : Int); rw [beq_iff]; omega
  | .ofNat a, .negSucc b => show false = true ↔ (a : Int) = .negSucc b; constructor; (intro h; cases h); (intro h; omega)
  | .negSucc a, .ofNat b => show false = true ↔ .negSucc a = (b : Int); constructor; (intro h; cases h); (intro h; omega)
  | .negSucc a, .negSucc b => show Nat.beq a b = true ↔ Int.negSucc a = Int.negSucc b; rw [beq_iff]; omega
theorem eqK_eq {a b : IntKind} (h : eqK a b = true) : a = b := by
  cases a <;> cases b <;> first | rfl | cases h
theorem minN_eq (a b : Nat) : minN a b = min a b := by
  unfold minN
  cases h : Nat.ble a b with
  | true => have := Nat.le_of_ble_eq_true h; simp; omega
  | false =>
    have : ¬ a ≤ b := fun h2 => by rw [Nat.ble_eq_true_of_le h2] at h; cases h
    simp; omega
theorem shlI_eq (m : Int) (n : Nat) : shlI m n = m * 2 ^ n := by
  cases m with
  | ofNat m => show ((m * 2 ^ n : Nat) : Int) = (m : Int) * 2 ^ n; simp
  | negSucc m => rfl
theorem shrI_eq (m : Int) (n : Nat) : shrI m n = m.fdiv (2 ^ n) := by
  cases m with
  | ofNat m =>
    show ((m / 2 ^ n : Nat) : Int) = (m : Int).fdiv (2 ^ n)
    rw [Int.fdiv_eq_ediv_of_nonneg _ (Int.le_of_lt (Int.pow_pos (by decide)))]
    simp
  | negSucc m => rfl
section
variable {C : Ctx} {E : Env} {L : List HProp} {ty : TypeId}
theorem v_nenilS {x y : Operand} {t t' e : TypeId} {p : Option Addr} {n c : Nat} (ht : C.P.underlying t = some (.slice e)) (hx : evalE E x = some (.slice p n c)) (hy : evalE E y = some (.slice none 0 0)) : OpV C (.binOp .neq t x y t') ty E L (.bool (!p.isNone)) L :=
  pureV fun d pos aft g a w ha => by
    rw [run_bin d pos aft g (ha.eval hx) (ha.eval hy) (by simp [eqGuard])]
    have h := run_equal_sl ht (p := p) (n := n) (c := c) 9999 w
    simp only [binOp, Op.equal, Op.maxDepth, Sem.run_bind, h, Result.andThen_ok, Sem.run_pure]
theorem v_nenilF {x y : Operand} {t t' : TypeId} {f : Fn} {fs cs : Array Value} (ht : funcB C.P t = true) (hx : evalE E x = some (.func f fs cs)) (hy : evalE E y = some .nilFunc) : OpV C (.binOp .neq t x y t') ty E L (.bool true) L :=
  pureV fun d pos aft g a w ha => by
    unfold funcB at ht
    split at ht <;> try simp at ht
    rename_i ps rs va hds
    rw [run_bin d pos aft g (ha.eval hx) (ha.eval hy) (by simp [eqGuard])]
    have h := run_equal_fn hds (f := f) (fs := fs) (cs := cs) 9999 w
    simp only [binOp, Op.equal, Op.maxDepth, Sem.run_bind, h, Result.andThen_ok, Sem.run_pure, Bool.not_false]
theorem s_ne {x y : Operand} {t t' : TypeId} {s u : ByteArray} {r : Bool} (hx : evalE E x = some (.string s)) (hy : evalE E y = some (.string u)) (hr : (s.toList == u.toList) = r) : OpV C (.binOp .neq t x y t') ty E L (.bool (!r)) L :=
  pureV fun d pos aft g a w ha => by
    rw [run_bin d pos aft g (ha.eval hx) (ha.eval hy) (by simp [eqGuard])]
    simp [binOp, Op.stringOp, ← hr, Sem.run_pure, bne]
theorem run_equal_ifc {t : TypeId} {ms : Array (String × TypeId)} (ht : C.P.underlying t = some (.interface ms)) (d : Nat) (w : World) : (Op.equalIn (d + 1) t .nilIface .nilIface).run C.P w = .ok true w := by
  simp [Op.equalIn, run_underlying ht]
theorem run_equal_ifc2 {t T : TypeId} {u : Value} {ms : Array (String × TypeId)} (ht : C.P.underlying t = some (.interface ms)) (d : Nat) (w : World) : (Op.equalIn (d + 1) t (.iface T u) .nilIface).run C.P w = .ok false w := by
  simp [Op.equalIn, run_underlying ht]
theorem v_ifcnil {x : Operand} {t t' : TypeId} {ms : Array (String × TypeId)} {v : Value} (b : Bool) (ht : C.P.underlying t = some (.interface ms)) (hx : evalE E x = some v) (hv : (v = .nilIface ∧ b = true) ∨ (∃ T u, v = .iface T u ∧ b = false)) :
    OpV C (.binOp .eql t x (.const .nilIface) t') ty E L (.bool b) L ∧ OpV C (.binOp .neq t x (.const .nilIface) t') ty E L (.bool (!b)) L := by
  have key : ∀ w, (Op.equalIn (9999 + 1) t v .nilIface).run C.P w = .ok b w := by
    intro w
    rcases hv with ⟨rfl, rfl⟩ | ⟨T, u, rfl, rfl⟩
    · exact run_equal_ifc ht 9999 w
    · exact run_equal_ifc2 ht 9999 w
  have kg : ∀ (o : BinOp) w, (eqGuard o t x (.const .nilIface) v .nilIface).run C.P w = .ok () w := by
    intro o w
    rcases hv with ⟨rfl, rfl⟩ | ⟨T, u, rfl, rfl⟩
    · unfold eqGuard; cases o <;> simp
    · unfold eqGuard; cases o <;> simp
  constructor
  · exact pureV fun d pos aft g a w ha => by
      rw [run_bin d pos aft g (ha.eval hx) (ha.eval (x := .const .nilIface) rfl) (kg _ w)]
      have h := key w
      rcases hv with ⟨rfl, rfl⟩ | ⟨T, u, rfl, rfl⟩ <;> simp only [binOp, Op.equal, Op.maxDepth, Sem.run_bind, h, Result.andThen_ok, Sem.run_pure]
  · exact pureV fun d pos aft g a w ha => by
      rw [run_bin d pos aft g (ha.eval hx) (ha.eval (x := .const .nilIface) rfl) (kg _ w)]
      have h := key w
      rcases hv with ⟨rfl, rfl⟩ | ⟨T, u, rfl, rfl⟩ <;> simp only [binOp, Op.equal, Op.maxDepth, Sem.run_bind, h, Result.andThen_ok, Sem.run_pure]
end
section
variable {C : Ctx} {ty : TypeId} {E : Env} {ρ : Ren} {s s' : St} {v : SV} {V : Value} {F : List HProp} {e : En}
noncomputable def numB (o : BinOp) : SV → SV → Option SV := match o with
  | .add => bAdd | .sub => bSub | .mul => bMul | .quo => bQuo | .rem => bRem | .shl => bShl | .shr => bShr
  | .and => bBit .and | .or => bBit .or | .xor => bBit .xor | .andNot => bBit .andNot
  | .lss => bLt | .leq => bLe | .gtr => bGt | .geq => bGe | _ => fun _ _ => none
theorem bI_ok {f : IntKind → Int → Int → Option SV} {a b r : SV} (h : bI f a b = some r) : ∃ k m n, a = .int k m ∧ b = .int k n ∧ f k m n = some r := by
  unfold bI at h
  split at h <;> try (cases h; done)
  rename_i k m
  split at h <;> try (cases h; done)
  rename_i j n
  cases hk : eqK k j with
  | false => rw [hk] at h; cases h
  | true => rw [hk] at h; obtain rfl := eqK_eq hk; exact ⟨k, m, n, rfl, rfl, h⟩
theorem bJ_ok {f : IntKind → Int → Nat → Option SV} {a b r : SV} (h : bJ f a b = some r) : ∃ k m j n, a = .int k m ∧ b = .int j (.ofNat n) ∧ f k m n = some r := by
  unfold bJ at h
  split at h <;> try (cases h; done)
  rename_i k m
  split at h <;> try (cases h; done)
  rename_i j n
  exact ⟨k, m, j, n, rfl, rfl, h⟩
theorem bBit_ok {o : BinOp} {k : IntKind} {m n : Int} {r : SV} (h : (Option.rec (motive := fun _ => Option SV) none (fun r => some (.int k r)) (bitA o k m n)) = some r) : ∃ z, bitZ o k m n = some z ∧ r = .int k z := by
  unfold bitA at h
  cases hb : bitZ o k m n with
  | none => rw [hb] at h; cases h
  | some z => rw [hb] at h; cases h; exact ⟨z, rfl, rfl⟩
theorem numB_ok {o : BinOp} {a b r : SV} {x y : Operand} {t t' : TypeId} {A B : Value} {L : List HProp} (h : numB o a b = some r) (hx : evalE E x = some A) (ha : den ρ a = some A) (hy : evalE E y = some B) (hb : den ρ b = some B) : ∃ V, den ρ r = some V ∧ OpV C (.binOp o t x y t') ty E L V L := by
  cases o
  case add => obtain ⟨k, m, n, rfl, rfl, g⟩ := bI_ok h; obtain rfl := Option.some.inj g; cases ha; cases hb; exact ⟨_, rfl, v_add hx hy (wrap_eq _ _).symm⟩
  case sub => obtain ⟨k, m, n, rfl, rfl, g⟩ := bI_ok h; obtain rfl := Option.some.inj g; cases ha; cases hb; exact ⟨_, rfl, v_sub hx hy (wrap_eq _ _).symm⟩
  case mul => obtain ⟨k, m, n, rfl, rfl, g⟩ := bI_ok h; obtain rfl := Option.some.inj g; cases ha; cases hb; exact ⟨_, rfl, v_mul hx hy (wrap_eq _ _).symm⟩
  case quo =>
    obtain ⟨k, m, n, rfl, rfl, g⟩ := bI_ok h
    cases hn : eqI n 0 with
    | true => rw [hn] at g; cases g
    | false => rw [hn] at g; obtain rfl := Option.some.inj g; cases ha; cases hb; exact ⟨_, rfl, v_quo hx hy (by rw [eqI_eq] at hn; simpa using hn) (wrap_eq _ _).symm⟩
  case rem =>
    obtain ⟨k, m, n, rfl, rfl, g⟩ := bI_ok h
    cases hn : eqI n 0 with
    | true => rw [hn] at g; cases g
    | false => rw [hn] at g; obtain rfl := Option.some.inj g; cases ha; cases hb; exact ⟨_, rfl, v_rem hx hy (by rw [eqI_eq] at hn; simpa using hn) rfl⟩
  case shl => obtain ⟨k, m, j, n, rfl, rfl, g⟩ := bJ_ok h; obtain rfl := Option.some.inj g; cases ha; cases hb; exact ⟨_, rfl, v_shl hx hy (Int.natCast_nonneg n) (by rw [wrap_eq, shlI_eq, minN_eq]; rfl)⟩
  case shr => obtain ⟨k, m, j, n, rfl, rfl, g⟩ := bJ_ok h; obtain rfl := Option.some.inj g; cases ha; cases hb; exact ⟨_, rfl, v_shr hx hy (Int.natCast_nonneg n) (by rw [shrI_eq, minN_eq]; rfl)⟩
  case and => obtain ⟨k, m, n, rfl, rfl, g⟩ := bI_ok h; obtain ⟨z, g2, rfl⟩ := bBit_ok (o := .and) (k := k) (m := m) (n := n) g; obtain rfl := Option.some.inj g2; cases ha; cases hb; exact ⟨_, rfl, v_and hx hy rfl⟩
  case or => obtain ⟨k, m, n, rfl, rfl, g⟩ := bI_ok h; obtain ⟨z, g2, rfl⟩ := bBit_ok (o := .or) (k := k) (m := m) (n := n) g; obtain rfl := Option.some.inj g2; cases ha; cases hb; exact ⟨_, rfl, v_or hx hy rfl⟩
  case xor => obtain ⟨k, m, n, rfl, rfl, g⟩ := bI_ok h; obtain ⟨z, g2, rfl⟩ := bBit_ok (o := .xor) (k := k) (m := m) (n := n) g; obtain rfl := Option.some.inj g2; cases ha; cases hb; exact ⟨_, rfl, v_xor hx hy rfl⟩
  case andNot => obtain ⟨k, m, n, rfl, rfl, g⟩ := bI_ok h; obtain ⟨z, g2, rfl⟩ := bBit_ok (o := .andNot) (k := k) (m := m) (n := n) g; obtain rfl := Option.some.inj g2; cases ha; cases hb; exact ⟨_, rfl, v_andNot hx hy rfl⟩
  case lss => obtain ⟨k, m, n, rfl, rfl, g⟩ := bI_ok h; obtain rfl := Option.some.inj g; cases ha; cases hb; exact ⟨_, rfl, by rw [ltI_eq]; exact v_lss hx hy⟩
  case leq => obtain ⟨k, m, n, rfl, rfl, g⟩ := bI_ok h; obtain rfl := Option.some.inj g; cases ha; cases hb; exact ⟨_, rfl, by rw [ltI_eq, show (!decide (n < m)) = decide (m ≤ n) from by rw [← decide_not]; exact decide_eq_decide.2 Int.not_lt]; exact v_leq hx hy⟩
  case gtr => obtain ⟨k, m, n, rfl, rfl, g⟩ := bI_ok h; obtain rfl := Option.some.inj g; cases ha; cases hb; exact ⟨_, rfl, by rw [ltI_eq]; exact v_gtr hx hy⟩
  case geq => obtain ⟨k, m, n, rfl, rfl, g⟩ := bI_ok h; obtain rfl := Option.some.inj g; cases ha; cases hb; exact ⟨_, rfl, by rw [ltI_eq, show (!decide (m < n)) = decide (n ≤ m) from by rw [← decide_not]; exact decide_eq_decide.2 Int.not_lt]; exact v_geq hx hy⟩
  all_goals cases h
end
end Go.Cr

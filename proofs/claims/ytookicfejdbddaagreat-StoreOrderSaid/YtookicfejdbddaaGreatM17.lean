/- Walks of functions that the law reaches, and what they lean on; no conditions. -/
import Derived.Test.YtookicfejdbddaaGreatM16
import Derived.Test.YtookicfejdbddaaGreatM3
import Derived.Test.YtookicfejdbddaaGreatM4
set_option linter.unusedVariables false
set_option linter.unusedSimpArgs false
set_option linter.unnecessarySimpa false
set_option maxRecDepth 100000
namespace Go.Cr
open Go.Sl
section
variable {C : Ctx} {ty : TypeId} {E : Env} {L : List HProp}
theorem v_buildArr {t n e sz : Nat} {parts : List (Nat × Operand)} {pv : List (Nat × Value)} {zs cs : List Value} (har : arrayB C.P t = some (n, e, sz)) (hz : zeroB C.P t = some zs) (hp : pevs E parts = some pv) (hf : Instr.fill (fun i => some (i * sz, sz)) zs.toArray pv = some cs.toArray) :
    OpV C (.build t parts.toArray) ty E L (.agg cs.toArray) L :=
  pureV fun d pos aft g a w ha => by
    obtain ⟨i', z, hz1, hz2, hz3, hz4⟩ := zero_spec hz
    have hmap : parts.toArray.map (fun x => match x with | (i, x) => (i, a.eval x)) = pv.toArray := by
      rw [← pevs_spec hp a ha]; simp
    unfold arrayB at har
    split at har
    · rename_i n' e' hfs
      split at har
      · rename_i i hi
        cases har
        simp only [execOp, hmap, Instr.build, Sem.run_bind, zeroValue, typeInfo, _root_.Go.run_program, Result.andThen_ok, hz1, hz2, Sem.run_pure, run_underlying hfs, Go.Sl.run_sizeOf hi, hz3]
        simp [hf]
      · cases har
    · cases har
end
theorem fold_sets : ∀ (us : List Value) (off k : Nat) (cs : List Value), off + k + us.length ≤ cs.length → (us.zipIdx k).foldl (fun (cs : Array Value) (x : Value × Nat) => cs.setIfInBounds (off + x.2) x.1) cs.toArray = (cs.take (off + k) ++ us ++ cs.drop (off + k + us.length)).toArray
  | [], off, k, cs, h => by simp
  | u :: us, off, k, cs, h => by
    simp only [List.length_cons] at h
    have hi : off + k < cs.length := by omega
    have e : (cs.set (off + k) u).take (off + (k + 1)) = cs.take (off + k) ++ [u] := by
      rw [show off + (k + 1) = (off + k) + 1 by omega, List.take_add_one, List.take_set_of_le (Nat.le_refl _)]
      simp [hi]
    have e2 : (cs.set (off + k) u).drop (off + (k + 1) + us.length) = cs.drop (off + k + (us.length + 1)) := by
      rw [List.drop_set_of_lt (by omega)]; congr 1; omega
    have ih := fold_sets us off (k + 1) (cs.set (off + k) u) (by rw [List.length_set]; omega)
    rw [e, e2] at ih
    simp only [List.zipIdx_cons, List.foldl_cons, List.setIfInBounds_toArray, List.length_cons]
    rw [ih]
    simp
section
variable {C : Ctx} {ty : TypeId} {E : Env} {ρ : Ren} {s s' : St} {v : SV} {V : Value} {F : List HProp} {e : En} {w0 w : World}
def denP (ρ : Ren) : List (Nat × SV) → Option (List (Nat × Value))
  | [] => some []
  | x :: l => (match den ρ x.2 with | some V => (match denP ρ l with | some vs => some ((x.1, V) :: vs) | none => none) | none => none)
noncomputable def evP (l : List (Nat × Operand)) (e : En) : Option (List (Nat × SV)) := List.rec (motive := fun _ => Option (List (Nat × SV))) (some [])
  (fun x _ ih => Option.rec none (fun v => Option.rec none (fun r => some ((x.1, v) :: r)) ih) (ev x.2 e)) l
theorem evP_ok (hE : Fits ρ e E) : ∀ {l : List (Nat × Operand)} {r : List (Nat × SV)}, evP l e = some r → ∃ pv, pevs E l = some pv ∧ denP ρ r = some pv
  | [], r, h => by cases h; exact ⟨[], rfl, rfl⟩
  | (i, x) :: l, r, h => by
    have h0 : evP ((i, x) :: l) e = Option.rec none (fun v => Option.rec none (fun r => some ((i, v) :: r)) (evP l e)) (ev x e) := rfl
    rw [h0] at h
    cases hx : ev x e with
    | none => rw [hx] at h; cases h
    | some v =>
      rw [hx] at h
      cases hl : evP l e with
      | none => rw [hl] at h; cases h
      | some us =>
        rw [hl] at h
        cases h
        obtain ⟨V, h1, h2⟩ := ev_ok hE hx
        obtain ⟨Us, h3, h4⟩ := evP_ok hE hl
        exact ⟨(i, V) :: Us, by simp [pevs, h1, h3], by simp [denP, h2, h4]⟩
noncomputable def fillS (place : Nat → Option (Nat × Nat)) (l : List (Nat × SV)) : List SV → (List SV → R1) → R1 := List.rec (motive := fun _ => List SV → (List SV → R1) → R1) (fun z k => k z)
  (fun x _ ih z k => wo (place x.1) fun p => wb (lenIs p.2 (cellsV x.2)) (wb (Nat.ble (Nat.add p.1 p.2) z.length) (setsK (cellsV x.2) z p.1 fun z => ih z k))) l
theorem fillS_ok {place : Nat → Option (Nat × Nat)} : ∀ {l : List (Nat × SV)} {pv : List (Nat × Value)} {z : List SV} {zs : List Value} {k : List SV → R1}, fillS place l z k = .ok v s' → dens ρ z = some zs → denP ρ l = some pv →
    ∃ z' zs', k z' = .ok v s' ∧ dens ρ z' = some zs' ∧ Instr.fill place zs.toArray pv = some zs'.toArray ∧ zs'.length = zs.length
  | [], pv, z, zs, k, h, hz, hp => by cases hp; exact ⟨z, zs, h, hz, rfl, rfl⟩
  | x :: l, pv, z, zs, k, h, hz, hp => by
    simp only [denP] at hp
    cases hx : den ρ x.2 with
    | none => rw [hx] at hp; cases hp
    | some V =>
      rw [hx] at hp
      cases hl : denP ρ l with
      | none => rw [hl] at hp; cases hp
      | some pv' =>
        rw [hl] at hp
        cases hp
        obtain ⟨p, h1, h⟩ := wo_ok (x := place x.1) h
        obtain ⟨h2, h⟩ := wb_ok h
        obtain ⟨h3, h⟩ := wb_ok h
        rw [setsK_eq] at h
        have h2 := lenIs_ok h2
        have h3 : p.1 + p.2 ≤ z.length := Nat.le_of_ble_eq_true h3
        have hc := cellsV_ok hx
        have hcl := dens_len hc
        have hzl := dens_len hz
        have hcl2 : V.cells.size = p.2 := by rw [← h2, ← hcl]; simp
        have hset := dens_sets (cs := z) p.1 hz hc (by rw [Array.length_toList]; omega)
        obtain ⟨z', zs', k1, k2, k3, k4⟩ := fillS_ok (l := l) h hset hl
        refine ⟨z', zs', k1, k2, ?_, ?_⟩
        · rw [← k3, Instr.fill, h1]
          dsimp only
          have hpz : ¬ (zs.length < p.1 + V.cells.size) := by omega
          rw [if_neg (by simp [hcl2]; omega)]
          congr 1
          have hf := fold_sets V.cells.toList p.1 0 zs (by rw [Array.length_toList]; omega)
          rw [Nat.add_zero] at hf
          rw [← hf]
          rw [← Array.foldl_toList, Array.toList_zipIdx]
        · rw [k4]; simp; omega
theorem plG (pl : List (Nat × Nat)) : (fun i : Nat => pl[i]?) = (fun i : Nat => pl.toArray[i]?) := by funext i; simp
noncomputable def buildS (t : Nat) (ps : List (Nat × Operand)) (P : Program) (e : En) (s : St) (pl : List (Nat × Nat)) : R1 := wo (zeros P t) fun z => wo (evP ps e) fun l => fillS (fun i => pl[i]?) l z fun z => .ok (.agg z) s
noncomputable def buildA (t : Nat) (ps : List (Nat × Operand)) (P : Program) (e : En) (s : St) : R1 := wo (arrayB P t) fun a => wo (zeros P t) fun z => wo (evP ps e) fun l => fillS (fun i => some (Nat.mul i a.2.2, a.2.2)) l z fun z => .ok (.agg z) s
noncomputable def oBuild (t : Nat) (ps : Array (Nat × Operand)) : Fo := fun P _ e s => Option.rec (buildA t ps.toList P e s) (buildS t ps.toList P e s) (placesB P t)
theorem oBuild_ok {call : Cl} {t : Nat} {ps : Array (Nat × Operand)} : Sound C call (.build t ps) (oBuild t ps) := fun {e s s' v E ρ ty F} h hE hf => by
  obtain ⟨ps⟩ := ps
  unfold oBuild at h
  cases hp : placesB C.P t with
  | some pl =>
    rw [hp] at h
    obtain ⟨z, h1, h⟩ := wo_ok h
    obtain ⟨l, h2, h⟩ := wo_ok h
    obtain ⟨zs, h3, h4⟩ := zeros_ok h1
    obtain ⟨pv, h5, h6⟩ := evP_ok hE h2
    obtain ⟨z', zs', k1, k2, k3, _⟩ := fillS_ok h (h4 ρ) h6
    cases k1
    rw [plG] at k3
    exact okV (v_build hp h3 h5 k3) (by simp [den, k2]) hf
  | none =>
    rw [hp] at h
    obtain ⟨a, h0, h⟩ := wo_ok h
    obtain ⟨z, h1, h⟩ := wo_ok h
    obtain ⟨l, h2, h⟩ := wo_ok h
    obtain ⟨zs, h3, h4⟩ := zeros_ok h1
    obtain ⟨pv, h5, h6⟩ := evP_ok hE h2
    obtain ⟨z', zs', k1, k2, k3, _⟩ := fillS_ok h (h4 ρ) h6
    cases k1
    exact okV (v_buildArr (n := a.1) (e := a.2.1) (sz := a.2.2) h0 h3 h5 k3) (by simp [den, k2]) hf
theorem sl_cel {p : Option Addr} {n cap T sz : Nat} {vs : List Value} {F : List HProp} (hi : Inv w0 (Sl p n cap T sz vs :: F) w) (hp : p ≠ none) : ∃ b o pre post, p = some ⟨b, o, none⟩ ∧ pre.length = o ∧ vs.length = n * sz ∧ (cap - n) * sz ≤ post.length ∧ n ≤ cap ∧ Inv w0 (Cel b T (pre ++ vs ++ post) :: F) w := by
  obtain ⟨⟨b, o, pre, post⟩, ⟨k1, k2, k3, k4, k5⟩, hi1⟩ := hi.opn (ι := Nat × Nat × List Value × List Value) (K := fun z => p = some ⟨z.1, z.2.1, none⟩ ∧ z.2.2.1.length = z.2.1 ∧ vs.length = n * sz ∧ (cap - n) * sz ≤ z.2.2.2.length ∧ n ≤ cap)
    (B := fun z => [Cel z.1 T (z.2.2.1 ++ vs ++ z.2.2.2)]) (by
      rintro h (⟨e, _⟩ | ⟨b', o', pre, post, e1, e2, e3, e4, e5, e6⟩)
      · exact absurd e hp
      · exact ⟨(b', o', pre, post), ⟨e1, e3, e4, e5, e6⟩, h, fun _ => none, fun _ => .inr rfl, Hp.le_refl _, fun _ _ e => by simp at e, e2, trivial⟩)
  exact ⟨b, o, pre, post, k1, k2, k3, k4, k5, hi1⟩
noncomputable def bslA (n : Nat) (ps : List (Nat × Operand)) (P : Program) (e : En) (s : St) (x : Nat × Nat × Nat) : R1 :=
  wb (Nat.ble 1 x.2.1) (wb (Nat.ble (n * x.2.1) 16777216) (wo (zeros P x.1) fun z => wo (evP ps e) fun l => fillS (fun i => some (Nat.mul i x.2.1, x.2.1)) l (List.replicate n z).flatten fun z => newO s x.1 x.2.1 true z fun b => .sli b 0 n n))
noncomputable def oBuildSl (t n : Nat) (ps : Array (Nat × Operand)) : Fo := fun P _ e s => wo (sliceB P t) (bslA n ps.toList P e s)
theorem oBuildSl_ok {call : Cl} {t n : Nat} {ps : Array (Nat × Operand)} : Sound C call (.buildSlice t n ps) (oBuildSl t n ps) := fun {e s s' v E ρ ty F} h hE hf => by
  obtain ⟨ps⟩ := ps
  obtain ⟨⟨T, sz, by_⟩, h0, h⟩ := wo_ok h
  obtain ⟨g1, h⟩ := wb_ok h
  obtain ⟨g2, h⟩ := wb_ok h
  obtain ⟨z, h1, h⟩ := wo_ok h
  obtain ⟨l, h2, h⟩ := wo_ok h
  obtain ⟨zs, h3, h4⟩ := zeros_ok h1
  obtain ⟨pv, h5, h6⟩ := evP_ok hE h2
  obtain ⟨z', zs', k1, k2, k3, k4⟩ := fillS_ok h (dens_rep (h4 ρ) n) h6
  obtain ⟨i, z0, hz1, hz2, hz3, hz4⟩ := zero_spec h3
  obtain ⟨_, i', hi', hsz, _⟩ := slice_spec h0
  rw [hz1] at hi'
  cases hi'
  have hzl : zs.length = sz := by rw [← hz4]; exact hsz
  have hl : zs'.length = n * sz := by rw [k4]; simp [hzl]
  refine ok_new k1 hf ?_
  intro d pos aft g a w K Q ha hi hK
  refine x_buildSlice h0 h3 g1 g2 (pevs_spec h5) k3 hl d pos aft g a w K Q ha hi ?_
  rintro V L' w' ⟨b, rfl, rfl⟩ hi'
  obtain ⟨b', o, pre, post, e1, e2, e3, e4, e5, hi2⟩ := sl_cel hi' (by simp)
  cases e1
  exact hK _ _ w' ⟨(b, 0, 0), pre, zs', post, k2, e2, by simp, fun _ => rfl, by simp [den, Ren.put_self], rfl⟩ hi2
noncomputable def mkA (P : Program) (s : St) (x : Nat × Nat × Nat) (n m : Nat) : R1 :=
  wb (Nat.ble 1 x.2.1) (wb (Nat.ble n m) (wb (Nat.ble m 9223372036854775807) (wb (Nat.ble (m * x.2.2) 281474976710656) (wo (zeros P x.1) fun z => newO s x.1 x.2.1 (Nat.beq n m) (List.replicate n z).flatten fun b => .sli b 0 n n))))
noncomputable def oMkS (t : Nat) (x y : Operand) : Fo := fun P _ e s => wo (sliceB P t) fun z => w1 x e fun a => w1 y e fun b => wo (nat? a) fun n => wo (nat? b) fun m => mkA P s z n m
theorem oMkS_ok {call : Cl} {t : Nat} {x y : Operand} : Sound C call (.makeSlice t x y) (oMkS t x y) := fun {e s s' v E ρ ty F} h hE hf => by
  obtain ⟨⟨T, sz, by_⟩, h0, h⟩ := wo_ok h
  obtain ⟨a, h1, h⟩ := w1_ok h
  obtain ⟨b, h2, h⟩ := w1_ok h
  obtain ⟨n, h3, h⟩ := wo_ok h
  obtain ⟨m, h4, h⟩ := wo_ok h
  obtain ⟨g1, h⟩ := wb_ok h
  obtain ⟨g2, h⟩ := wb_ok h
  obtain ⟨g3, h⟩ := wb_ok h
  obtain ⟨g4, h⟩ := wb_ok h
  obtain ⟨z, h5, h⟩ := wo_ok h
  obtain ⟨zs, h6, h7⟩ := zeros_ok h5
  obtain ⟨A, hx, hA⟩ := ev_ok hE h1
  obtain ⟨B, hy, hB⟩ := ev_ok hE h2
  obtain ⟨k1, rfl⟩ := nat_ok h3 hA
  obtain ⟨k2, rfl⟩ := nat_ok h4 hB
  have g2 := Nat.le_of_ble_eq_true g2
  have g3 := Nat.le_of_ble_eq_true g3
  have g4 : m * by_ ≤ 281474976710656 := Nat.le_of_ble_eq_true g4
  refine ok_new h hf ?_
  intro d pos aft g a w K Q ha hi hK
  refine x_make n m rfl rfl h0 h6 g1 hx hy g2 g3 g4 d pos aft g a w K Q ha hi ?_
  rintro V L' w' ⟨b, rfl, rfl⟩ hi'
  obtain ⟨b', o, pre, post, e1, e2, e3, e4, e5, hi2⟩ := sl_cel hi' (by simp)
  cases e1
  exact hK _ _ w' ⟨(b, 0, m - n), pre, _, post, dens_rep (h7 ρ) n, e2, e4, fun he => (by have := Nat.eq_of_beq_eq_true he; show m - n = 0; omega), by simp only [den, Ren.put_self, Nat.add_zero]; rw [Nat.add_sub_cancel' g2], rfl⟩ hi2
end
end Go.Cr
namespace Go.Sl
section
variable {C : Ctx} {E : Env} {L : List HProp} {ty : TypeId} {α : Type}
end
end Go.Sl
namespace Go.Sl
section
variable {C : Ctx} {Q : QT} {E : Env} {L F G : List HProp} {ops : Array Oper} {rest : List Oper} {ty : TypeId} {pos : String} {aft : Array Edge}
theorem v_sliceAr {x : Operand} {t n e sz b o : Nat} (ht : arrayB C.P t = some (n, e, sz)) (hx : evalE E x = some (.pointer (some ⟨b, o, none⟩))) : OpV C (.slice t x none none none) ty E L (.slice (some ⟨b, o, none⟩) n n) L :=
  pureV fun d pos aft g a w ha => by
    obtain ⟨e1, i, e2, e3⟩ := array_spec ht
    simp [execOp, ha.eval hx, Instr.sliceAt, run_underlying e1, Instr.sureAddr, Instr.sliceBounds, run_sizeOf e2, e3, Addr.add_mk]
end
end Go.Sl
namespace Go.Cr
open Go.Sl
section
variable {C : Ctx} {ty : TypeId} {E : Env} {L : List HProp}
theorem v_app0 {x y : Operand} {t e sz by_ n cap cap2 : Nat} {p p2 : Option Addr} (ht : sliceB C.P t = some (e, sz, by_)) (hs : evalE E x = some (.slice p n cap)) (hx : evalE E y = some (.slice p2 0 cap2)) (hn : n ≤ cap) :
    OpV C (.call ⟨.builtin .append, [x, y].toArray, #[t, t]⟩) ty E L (.slice p n cap) L := by
  intro d pos aft g a w ha hi
  refine ⟨w, .inl ?_, hi, fun h => by cases h⟩
  obtain ⟨ht1, i, hi2, rfl, rfl⟩ := slice_spec ht
  obtain ⟨consts, hrun⟩ := run_resolve_builtin (C := C) (ty := ty) (pos := pos) (aft := aft) (b := .append) (xs := [x, y]) (tys := #[t, t]) (vs := [.slice p n cap, .slice p2 0 cap2]) (a := a) (by simp [ha.eval hs, ha.eval hx]) d g w
  rw [hrun]
  have h0 : (Builtin.firstCells i.size 0 (.slice p2 0 cap2)).run C.P w = .ok #[] w := by
    cases p2 <;> simp [Builtin.firstCells, loadCells, loadCellsFrom]
  cases p <;> simp [builtin, Builtin.append_, run_underlying ht1, sizeOf, typeInfo, hi2, Builtin.lenOf, h0, hn, storeCells]
end
section
variable {C : Ctx} {ty : TypeId} {E : Env} {ρ : Ren} {s s' s1 : St} {v : SV} {V : Value} {F : List HProp} {e : En} {w0 w : World}
noncomputable def optN (e : En) (d : Nat) (x : Option Operand) : Option Nat := Option.rec (some d) (fun x => Option.rec none nat? (ev x e)) x
theorem optN_ok (hE : Fits ρ e E) {d n : Nat} {x : Option Operand} (h : optN e d x = some n) : match x with | none => n = d | some z => ∃ k, evalE E z = some (.int k (n : Int)) := by
  cases x with
  | none => cases h; rfl
  | some z =>
    have h0 : Option.rec (motive := fun _ => Option Nat) none nat? (ev z e) = some n := h
    cases hz : ev z e with
    | none => rw [hz] at h0; cases h0
    | some v =>
      rw [hz] at h0
      obtain ⟨V, h1, h2⟩ := ev_ok hE hz
      obtain ⟨k, rfl⟩ := nat_ok h0 h2
      exact ⟨k, h1⟩
noncomputable def newN (s : St) (k : Nat → SV) : R1 := fN s.nx fun n => .ok (k n) ⟨s.h, Nat.succ n⟩
theorem ok_name {o : Op} (x : Nat × Nat × Nat) {k : Nat → SV} (h : newN s k = .ok v s') (hf : Fr ρ s.nx) (hv : den (ρ.put s.nx x) (k s.nx) = some V) (hx : OpV C o ty E (denH ρ s.h ++ F) V (denH ρ s.h ++ F)) : OkX C ty o E ρ s s' v F := by
  unfold newN at h
  rw [fN_eq] at h
  cases h
  intro d pos aft g a w K Q ha hi hK
  refine hx.x d pos aft g a w K Q ha hi ?_
  rintro V' L' w' ⟨rfl, rfl⟩ hi'
  exact hK _ _ w' ⟨ρ.put s.nx x, Ren.put_ext x hf, Ren.put_fr x hf, hv, sub_ext (Ren.put_ext x hf) _ _⟩ hi'
noncomputable def slS (s : St) (b o c sz l h : Nat) : R1 := wb (Nat.ble l h) (wb (Nat.ble h c) (Bool.rec (force (.sli b (Nat.add o (Nat.mul l sz)) (Nat.sub h l) (Nat.sub c l)) fun v => .ok v s) (newN s fun n => .sli n 0 0 0) (Nat.beq l c)))
noncomputable def arrS (s : St) (b o n : Nat) (ob : Ob) : R1 := wb ob.ex (.ok (.sli b o n n) s)
noncomputable def slV (t : Nat) (lo hi : Option Operand) (P : Program) (e : En) (s : St) (v : SV) : R1 := match v with
  | .sli b o n c => wo (sliceB P t) fun z => wo (optN e 0 lo) fun l => wo (optN e n hi) fun h => slS s b o c z.2.1 l h
  | .nils => wo (sliceB P t) fun z => wo (optN e 0 lo) fun l => wo (optN e 0 hi) fun h => wb (Nat.beq l 0) (wb (Nat.beq h 0) (.ok .nils s))
  | .ptr b o => (match lo, hi with | none, none => wo (arrayB P t) fun z => wO s b (arrS s b o z.1) | _, _ => .no)
  | .str a => (match lo with | none => wb (match P.underlying t with | some .string => true | _ => false) (wo (optN e a.length hi) fun h => wb (Nat.ble h a.length) (wb (Option.isSome hi) (.ok (.str (a.take h)) s))) | _ => .no)
  | _ => .no
noncomputable def slM (t : Nat) (lo : Option Operand) (y m : Operand) (P : Program) (e : En) (s : St) (v : SV) : R1 := match v with
  | .sli b o n c => wo (sliceB P t) fun z => wo (optN e 0 lo) fun l => wo (optN e n (some y)) fun r => wo (optN e n (some m)) fun q => wb (Nat.ble l r) (wb (Nat.ble r q) (wb (Nat.ble q c) (wb (Nat.blt l q) (newN s fun a => .sli a 0 (Nat.sub r l) 0))))
  | _ => .no
noncomputable def oSlice (t : Nat) (x : Operand) (lo hi mx : Option Operand) : Fo := fun P _ e s => Option.rec (w1 x e (slV t lo hi P e s)) (fun m => Option.rec .no (fun y => w1 x e (slM t lo y m P e s)) hi) mx
theorem oSlice_ok {call : Cl} {t : Nat} {x : Operand} {lo hi mx : Option Operand} : Sound C call (.slice t x lo hi mx) (oSlice t x lo hi mx) := fun {e s s' v E ρ ty F} h hE hf => by
  cases mx with
  | some m =>
    cases hi with
    | none => cases h
    | some y =>
      obtain ⟨a, h1, h⟩ := w1_ok (show w1 x e (slM t lo y m C.P e s) = .ok v s' from h)
      obtain ⟨A, hx, hA⟩ := ev_ok hE h1
      unfold slM at h
      split at h <;> try (cases h; done)
      rename_i b o n c
      obtain ⟨⟨T, sz, by_⟩, h2, h⟩ := wo_ok h
      obtain ⟨l, h3, h⟩ := wo_ok h
      obtain ⟨r, h4, h⟩ := wo_ok h
      obtain ⟨q, h5, h⟩ := wo_ok h
      obtain ⟨g1, h⟩ := wb_ok h
      obtain ⟨g2, h⟩ := wb_ok h
      obtain ⟨g3, h⟩ := wb_ok h
      obtain ⟨g4, h⟩ := wb_ok h
      obtain ⟨z, hz, rfl⟩ := den_sli hA
      have k1 := optN_ok hE h3
      have k2 := optN_ok hE h4
      have k3 := optN_ok hE h5
      have g1 := Nat.le_of_ble_eq_true g1
      have g2 := Nat.le_of_ble_eq_true g2
      have g3 := Nat.le_of_ble_eq_true g3
      have g4 : l < q := blt_lt g4
      have hV := v_slice (C := C) (E := E) (ty := ty) (L := denH ρ s.h ++ F) (lo := lo) (hi := some y) (mx := some m) l r q h2 hx (by cases lo <;> exact k1) k2 k3 g1 g2 (by omega)
      rw [subP_some _ _ _ _ _ (by omega)] at hV
      refine ok_name (z.1, z.2.1 + o + l * sz, q - l) h hf ?_ hV
      simp [den, Ren.put_self]
  | none =>
    obtain ⟨a, h1, h⟩ := w1_ok (show w1 x e (slV t lo hi C.P e s) = .ok v s' from h)
    obtain ⟨A, hx, hA⟩ := ev_ok hE h1
    unfold slV at h
    split at h <;> try (cases h; done)
    · rename_i b o n c
      obtain ⟨⟨T, sz, by_⟩, h2, h⟩ := wo_ok h
      obtain ⟨l, h3, h⟩ := wo_ok h
      obtain ⟨r, h4, h⟩ := wo_ok h
      obtain ⟨g1, h⟩ := wb_ok h
      obtain ⟨g2, h⟩ := wb_ok h
      obtain ⟨z, hz, rfl⟩ := den_sli hA
      have k1 := optN_ok hE h3
      have k2 := optN_ok hE h4
      have g1 := Nat.le_of_ble_eq_true g1
      have g2 := Nat.le_of_ble_eq_true g2
      have hV := v_slice (C := C) (E := E) (ty := ty) (L := denH ρ s.h ++ F) (lo := lo) (hi := hi) (mx := none) l r (c + z.2.2) h2 hx (by cases lo <;> exact k1) (by cases hi with | none => exact ⟨k2, rfl⟩ | some _ => exact k2) rfl g1 (by omega) (Nat.le_refl _)
      cases hlc : Nat.beq l c with
      | false =>
        rw [hlc] at h
        simp only [force_eq] at h
        cases h
        have hne : l ≠ c := fun e => by subst e; rw [Nat.beq_refl] at hlc; cases hlc
        rw [subP_some _ _ _ _ _ (by omega)] at hV
        refine okV hV ?_ hf
        simp only [den, hz]
        have as : ∀ a b : Nat, Nat.add a b = a + b := fun _ _ => rfl
        have ms : ∀ a b : Nat, Nat.mul a b = a * b := fun _ _ => rfl
        have ss : ∀ a b : Nat, Nat.sub a b = a - b := fun _ _ => rfl
        rw [as, ms, ss, ss, ← Nat.add_assoc, show c - l + z.2.2 = c + z.2.2 - l by omega]
      | true =>
        rw [hlc] at h
        obtain rfl := Nat.eq_of_beq_eq_true hlc
        obtain rfl : r = l := by omega
        by_cases hz0 : z.2.2 = 0
        · refine ok_name (z.1, z.2.1 + o, 0) h hf ?_ hV
          simp only [den, Ren.put_self]
          simp [subP, hz0]
        · refine ok_name (z.1, z.2.1 + o + r * sz, z.2.2) h hf ?_ hV
          simp only [den, Ren.put_self]
          rw [subP_some _ _ _ _ _ (by omega)]
          simp
    · obtain ⟨⟨T, sz, by_⟩, h2, h⟩ := wo_ok h
      obtain ⟨l, h3, h⟩ := wo_ok h
      obtain ⟨r, h4, h⟩ := wo_ok h
      obtain ⟨g1, h⟩ := wb_ok h
      obtain ⟨g2, h⟩ := wb_ok h
      cases h
      cases hA
      obtain rfl := Nat.eq_of_beq_eq_true g1
      obtain rfl := Nat.eq_of_beq_eq_true g2
      have k1 := optN_ok hE h3
      have k2 := optN_ok hE h4
      exact okV (v_slice (lo := lo) (hi := hi) (mx := none) 0 0 0 h2 hx (by cases lo <;> exact k1) (by cases hi with | none => exact ⟨k2, rfl⟩ | some _ => exact k2) rfl (Nat.le_refl _) (Nat.le_refl _) (Nat.le_refl _)) (by simp [den, subP]) hf
    · rename_i b o
      split at h <;> try (cases h; done)
      obtain ⟨⟨n, el, sz⟩, h2, h⟩ := wo_ok h
      obtain ⟨ob, hg, hid, h⟩ := wO_ok h
      obtain ⟨g1, h⟩ := wb_ok h
      cases h
      obtain ⟨z, hz, rfl⟩ := den_ptr hA
      intro d pos aft g a w K Q ha hi hK
      obtain ⟨y, pre, vs, post, e1, e2, e3, e4, e5, _⟩ := inv_open hg hi
      rw [hid, hz] at e1
      cases e1
      exact okV (v_sliceAr h2 hx) (by simp [den, hz, e5 g1]) hf d pos aft g a w K Q ha hi hK
    · rename_i a
      split at h <;> try (cases h; done)
      obtain ⟨g1, h⟩ := wb_ok h
      obtain ⟨r, h3, h⟩ := wo_ok h
      obtain ⟨g2, h⟩ := wb_ok h
      obtain ⟨g3, h⟩ := wb_ok h
      cases h
      cases hA
      cases hi with
      | none => cases g3
      | some z =>
        obtain ⟨k, hk⟩ := optN_ok hE h3
        have hsz : (strV a).size = a.length := by simp [strV, ByteArray.size]
        have g2 := Nat.le_of_ble_eq_true g2
        split at g1
        · rename_i ht
          refine okV (v_prefS ht hx hk (Int.natCast_nonneg r) (by rw [hsz]; omega) (u := strV (a.take r)) ?_) rfl hf
          apply ByteArray.ext
          simp [strV, ByteArray.extract, ByteArray.copySlice, List.map_take]
        · cases g1
end
end Go.Cr
namespace Go.Cr
open Go.Sl
section
variable {C : Ctx} {ty : TypeId} {E : Env} {ρ : Ren} {s s' s1 : St} {v : SV} {V : Value} {F : List HProp} {e : En} {w0 w : World} {P : Program}
def isS (P : Program) (t : Nat) : Bool := match P.underlying t with | some (.slice _) => true | _ => false
def isStr (P : Program) (t : Nat) : Bool := match P.underlying t with | some .string => true | _ => false
theorem isS_ok {P : Program} {t : Nat} (h : isS P t = true) : ∃ e, P.underlying t = some (.slice e) := by
  unfold isS at h
  split at h
  · exact ⟨_, by assumption⟩
  · cases h
theorem isStr_ok {P : Program} {t : Nat} (h : isStr P t = true) : P.underlying t = some .string := by
  unfold isStr at h
  split at h
  · assumption
  · cases h
noncomputable def lenV (t : Nat) (P : Program) (s : St) (v : SV) : R1 := match v with
  | .sli _ _ n _ => wb (isS P t) (.ok (.int .i64 (.ofNat n)) s)
  | .nils => wb (isS P t) (.ok (.int .i64 0) s)
  | .str l => wb (isStr P t) (fN l.length fun m => .ok (.int .i64 (.ofNat m)) s)
  | _ => .no
noncomputable def capV (t : Nat) (P : Program) (s : St) (v : SV) : R1 := match v with
  | .sli b _ _ c => wb (isS P t) (wO s b fun ob => wb ob.ex (.ok (.int .i64 (.ofNat c)) s))
  | .nils => wb (isS P t) (.ok (.int .i64 0) s)
  | _ => .no
abbrev Fb := List Nat → List Operand → Program → En → St → R1
noncomputable def cLen : Fb := fun ts xs P e s => match ts with | [t] => (match xs with | [x] => w1 x e (lenV t P s) | _ => .no) | _ => .no
noncomputable def cCap : Fb := fun ts xs P e s => match ts with | [t] => (match xs with | [x] => w1 x e (capV t P s) | _ => .no) | _ => .no
noncomputable def minV (s : St) (a b : SV) : R1 := match a with | .int k m => (match b with | .int j n => cond (eqK k j) (fI (cond (ltI n m) n m) fun r => .ok (.int k r) s) .no | _ => .no) | _ => .no
noncomputable def maxV (s : St) (a b : SV) : R1 := match a with | .int k m => (match b with | .int j n => cond (eqK k j) (fI (cond (ltI m n) n m) fun r => .ok (.int k r) s) .no | _ => .no) | _ => .no
noncomputable def cMin : Fb := fun _ xs P e s => match xs with | [x, y] => w1 x e fun a => w1 y e (minV s a) | _ => .no
noncomputable def cMax : Fb := fun _ xs P e s => match xs with | [x, y] => w1 x e fun a => w1 y e (maxV s a) | _ => .no
def SoundB (C : Ctx) (b : Builtin) (f : Fb) : Prop := ∀ {e : En} {s s' : St} {v : SV} {E : Env} {ρ : Ren} {ty : TypeId} {F : List HProp} {ts : List Nat} {xs : List Operand}, f ts xs C.P e s = .ok v s' → Fits ρ e E → Fr ρ s.nx → OkX C ty (.call ⟨.builtin b, xs.toArray, ts.toArray⟩) E ρ s s' v F
theorem cLen_ok : SoundB C .len cLen := fun {e s s' v E ρ ty F ts xs} h hE hf => by
  unfold cLen at h
  split at h <;> try (cases h; done)
  split at h <;> try (cases h; done)
  obtain ⟨a, h1, h⟩ := w1_ok h
  obtain ⟨A, hx, hA⟩ := ev_ok hE h1
  unfold lenV at h
  split at h <;> try (cases h; done)
  · obtain ⟨g, h⟩ := wb_ok h
    obtain ⟨el, g⟩ := isS_ok g
    cases h
    obtain ⟨z, hz, rfl⟩ := den_sli hA
    exact okV (v_len (ty' := 0) g hx) rfl hf
  · obtain ⟨g, h⟩ := wb_ok h
    obtain ⟨el, g⟩ := isS_ok g
    cases h
    cases hA
    exact okV (v_len (ty' := 0) g hx) rfl hf
  · obtain ⟨g, h⟩ := wb_ok h
    rw [fN_eq] at h
    cases h
    cases hA
    exact okV (v_lenS (isStr_ok g) hx (by simp [strV, ByteArray.size])) rfl hf
theorem cCap_ok : SoundB C .cap cCap := fun {e s s' v E ρ ty F ts xs} h hE hf => by
  unfold cCap at h
  split at h <;> try (cases h; done)
  split at h <;> try (cases h; done)
  obtain ⟨a, h1, h⟩ := w1_ok h
  obtain ⟨A, hx, hA⟩ := ev_ok hE h1
  unfold capV at h
  split at h <;> try (cases h; done)
  · obtain ⟨g, h⟩ := wb_ok h
    obtain ⟨el, g⟩ := isS_ok g
    obtain ⟨ob, hg, hid, h⟩ := wO_ok h
    obtain ⟨g1, h⟩ := wb_ok h
    cases h
    obtain ⟨z, hz, rfl⟩ := den_sli hA
    intro d pos aft g a w K Q ha hi hK
    obtain ⟨y, pre, vs, post, e1, e2, e3, e4, e5, _⟩ := inv_open hg hi
    rw [hid, hz] at e1
    cases e1
    rename_i gT _ _ _ _
    have hV := fun L => v_cap (C := C) (E := E) (ty := ty) (L := L) (ty' := 0) gT hx
    rw [e5 g1, Nat.add_zero] at hV
    exact okV (hV _) rfl hf d pos aft g a w K Q ha hi hK
  · obtain ⟨g, h⟩ := wb_ok h
    obtain ⟨el, g⟩ := isS_ok g
    cases h
    cases hA
    exact okV (v_cap (ty' := 0) g hx) rfl hf
theorem minV_ok {a b : SV} (h : minV s a b = .ok v s') : ∃ k m n, a = .int k m ∧ b = .int k n ∧ v = .int k (cond (ltI n m) n m) ∧ s = s' := by
  unfold minV at h
  split at h <;> try (cases h; done)
  rename_i k m
  split at h <;> try (cases h; done)
  rename_i j n
  cases hk : eqK k j with
  | false => rw [hk] at h; cases h
  | true =>
    rw [hk] at h
    obtain rfl := eqK_eq hk
    simp only [cond_true, fI_eq] at h
    cases h
    exact ⟨k, m, n, rfl, rfl, rfl, rfl⟩
theorem maxV_ok {a b : SV} (h : maxV s a b = .ok v s') : ∃ k m n, a = .int k m ∧ b = .int k n ∧ v = .int k (cond (ltI m n) n m) ∧ s = s' := by
  unfold maxV at h
  split at h <;> try (cases h; done)
  rename_i k m
  split at h <;> try (cases h; done)
  rename_i j n
  cases hk : eqK k j with
  | false => rw [hk] at h; cases h
  | true =>
    rw [hk] at h
    obtain rfl := eqK_eq hk
    simp only [cond_true, fI_eq] at h
    cases h
    exact ⟨k, m, n, rfl, rfl, rfl, rfl⟩
theorem cMin_ok : SoundB C .min cMin := fun {e s s' v E ρ ty F ts xs} h hE hf => by
  unfold cMin at h
  split at h <;> try (cases h; done)
  obtain ⟨a, h1, h⟩ := w1_ok h
  obtain ⟨b, h2, h⟩ := w1_ok h
  obtain ⟨A, hx, hA⟩ := ev_ok hE h1
  obtain ⟨B, hy, hB⟩ := ev_ok hE h2
  obtain ⟨k, m, n, rfl, rfl, rfl, rfl⟩ := minV_ok h
  cases hA; cases hB
  refine okV (v_min hx hy) ?_ hf
  rw [ltI_eq]
  by_cases hlt : n < m <;> simp [hlt, den]
theorem cMax_ok : SoundB C .max cMax := fun {e s s' v E ρ ty F ts xs} h hE hf => by
  unfold cMax at h
  split at h <;> try (cases h; done)
  obtain ⟨a, h1, h⟩ := w1_ok h
  obtain ⟨b, h2, h⟩ := w1_ok h
  obtain ⟨A, hx, hA⟩ := ev_ok hE h1
  obtain ⟨B, hy, hB⟩ := ev_ok hE h2
  obtain ⟨k, m, n, rfl, rfl, rfl, rfl⟩ := maxV_ok h
  cases hA; cases hB
  refine okV (v_max hx hy) ?_ hf
  rw [ltI_eq]
  by_cases hlt : m < n <;> simp [hlt, den]
noncomputable def forceL {α : Type} (l : List SV) : (List SV → α) → α := List.rec (motive := fun _ => (List SV → α) → α) (fun k => k []) (fun x _ ih k => ih fun t => k (x :: t)) l
theorem forceL_eq {α : Type} : ∀ (l : List SV) (k : List SV → α), forceL l k = k l
  | [], k => rfl
  | x :: l, k => forceL_eq l (fun t => k (x :: t))
def bytesV (l : List Nat) : List SV := l.map fun n => .int .u8 (.ofNat n)
theorem bytesV_ok : ∀ (l : List Nat), dens ρ (bytesV l) = some (l.map fun n : Nat => Value.int .u8 (n : Int))
  | [] => rfl
  | n :: l => dens_mk rfl (bytesV_ok l)
theorem HO_rd {ob : Ob} {o m sz : Nat} {x : Nat × Nat × Nat} {vs : List Value} {h : Hp} (hT : Nat.blt ob.T 4294967296 = true) (hx : ρ ob.id = some x) (hv : dens ρ ob.cs = some vs) (hl : ((vs.drop o).take (m * sz)).length = m * sz) (hh : HO ρ ob w0 h) : Rd (some ⟨x.1, x.2.1 + o, none⟩) m sz ((vs.drop o).take (m * sz)) w0 h := by
  rw [HO_c hT] at hh
  obtain ⟨y, pre, us, post, h1, h2, ⟨fr, h3⟩, h4, h5⟩ := hh
  rw [hx] at h1
  cases h1
  rw [hv] at h2
  cases h2
  refine ⟨hl, .inr ⟨x.1, x.2.1 + o, rfl, fun i v hi => ?_⟩⟩
  unfold cellH
  rw [h3]
  have hi2 : vs[o + i]? = some v := by
    rw [List.getElem?_take] at hi
    split at hi
    · simpa [List.getElem?_drop] using hi
    · cases hi
  have hlt := (List.getElem?_eq_some_iff.1 hi2).1
  simp only [Option.isSome_none, Bool.false_eq_true, if_false, List.getElem?_toArray]
  rw [List.append_assoc, List.getElem?_append_right (by omega), show x.2.1 + o + i - pre.length = o + i by omega, List.getElem?_append_left hlt, hi2]
theorem app_new {op : Op} {N T sz : Nat} {cs : List SV} {ws : List Value} {L : List HProp} (h : newO s1 T sz false cs (fun b => .sli b 0 N N) = .ok v s') (hn : s1.nx = s.nx) (hN : 0 < N) (hc : dens ρ cs = some ws) (hf : Fr ρ s.nx)
    (hx : OpX C op ty E L (fun V L' => ∃ p' cap', V = .slice p' N cap' ∧ L' = Sl p' N cap' T sz ws :: (denH ρ s1.h ++ F))) :
    OpX C op ty E L (fun V L' => ∃ σ, Ext ρ σ ∧ Fr σ s'.nx ∧ den σ v = some V ∧ Sub L' (denH σ s'.h ++ F)) := by
  obtain ⟨rfl, rfl, hT⟩ := newO_ok h
  intro d pos aft g a w K Q ha hi hK
  refine hx d pos aft g a w K Q ha hi ?_
  rintro V L' w' ⟨p', cap', rfl, rfl⟩ hi'
  have hne : p' ≠ none := by
    rcases (sl_facts hi' (List.mem_cons_self)).2.2 with h0 | ⟨b, o, h0⟩
    · omega
    · rw [h0]; intro e; cases e
  obtain ⟨b, o, pre, post, rfl, e2, e3, e4, e5, hi2⟩ := sl_cel hi' hne
  have hf1 : Fr ρ s1.nx := by rw [hn]; exact hf
  refine hK _ _ w' ⟨ρ.put s1.nx (b, o, cap' - N), Ren.put_ext _ hf1, Ren.put_fr _ hf1, ?_, ?_⟩ hi2
  · simp only [den, Ren.put_self, Nat.add_zero]
    rw [show N + (cap' - N) = cap' by omega]
  · exact new_sub (s := s1) (T := T) (sz := sz) (ex := false) (F := F) (x := (b, o, cap' - N)) (pre := pre) (post := post) hT hf1 hc e2 e4 (fun e => by cases e)
noncomputable def srcS (s : St) (sz : Nat) (b b2 o m : Nat) (k : Nat → List SV → R1) : R1 := wb (not (Nat.beq b b2)) (wO s b2 fun ob => wb (lenIs (Nat.mul m sz) (cut ob.cs o (Nat.mul m sz))) (wb (ones (cut ob.cs o (Nat.mul m sz))) (k m (cut ob.cs o (Nat.mul m sz)))))
noncomputable def srcV (P : Program) (t u : Nat) (s : St) (sz : Nat) (b : Nat) (y : SV) (k : Nat → List SV → R1) : R1 := match y with
  | .sli b2 o m _ => wb (Nat.beq t u) (srcS s sz b b2 o m k)
  | .str l => wb (isStr P u) (wb (Nat.beq sz 1) (wb (bytB l) (fN l.length fun n => k n (bytesV l))))
  | _ => .no
noncomputable def apN (T sz by_ : Nat) (s : St) (m : Nat) (ys : List SV) : R1 := wb (Nat.blt 0 m) (wb (Nat.ble (Nat.mul m by_) 140737488355328) (forceL ys fun ys => newO s T sz false ys fun b => .sli b 0 m m))
noncomputable def apS (T sz by_ : Nat) (s : St) (b o n c m : Nat) (ys : List SV) : R1 := wb (Nat.blt 0 m) (wb (Nat.ble (Nat.mul (Nat.add n m) by_) 140737488355328) (wb (Nat.ble n c) (wO s b fun ob => wb (Nat.beq ob.T T) (wb (Nat.beq ob.sz sz)
  (wb (Nat.ble (Nat.add o (Nat.mul c sz)) ob.cs.length) (forceL (cut ob.cs o (Nat.mul n sz) ++ ys) fun cs => fN (Nat.add n m) fun q => newO ⟨s.h.set b none, s.nx⟩ T sz false cs fun b => .sli b 0 q q))))))
def isE (y : SV) : Bool := match y with | .nils => true | .sli _ _ n _ => Nat.beq n 0 | _ => false
def okA (x : SV) : Bool := match x with | .nils => true | .sli _ _ n c => Nat.ble n c | _ => false
noncomputable def apX (P : Program) (t u : Nat) (z : Nat × Nat × Nat) (s : St) (y x : SV) : R1 := match x with
  | .nils => srcV P t u s z.2.1 s.nx y (apN z.1 z.2.1 z.2.2 s)
  | .sli b o n c => srcV P t u s z.2.1 b y (apS z.1 z.2.1 z.2.2 s b o n c)
  | _ => .no
noncomputable def apE (P : Program) (t u : Nat) (z : Nat × Nat × Nat) (s : St) (y x : SV) : R1 := Bool.rec (apX P t u z s y x) (wb (Nat.beq t u) (wb (okA x) (.ok x s))) (isE y)
noncomputable def apT (P : Program) (z : Nat × Nat × Nat) (k : R1) : R1 := wo (zeroB P z.1) fun _ => wb (Nat.ble 1 z.2.1) (wb (Nat.ble 1 z.2.2) k)
noncomputable def cApp : Fb := fun ts xs P e s => match ts with | [t, u] => (match xs with | [x, y] => wo (sliceB P t) fun z => apT P z (w1 x e fun a => w1 y e fun b => apE P t u z s b a) | _ => .no) | _ => .no
theorem srcV_ok {t u sz b : Nat} {y : SV} {k : Nat → List SV → R1} (h : srcV P t u s sz b y k = .ok v s') : (∃ b2 o m c ob, y = .sli b2 o m c ∧ t = u ∧ b ≠ b2 ∧ Got s b2 ob ∧ ob.id = b2 ∧ lenIs (m * sz) (cut ob.cs o (m * sz)) = true ∧ ones (cut ob.cs o (m * sz)) = true ∧ k m (cut ob.cs o (m * sz)) = .ok v s') ∨
    (∃ l, y = .str l ∧ isStr P u = true ∧ sz = 1 ∧ bytB l = true ∧ k l.length (bytesV l) = .ok v s') := by
  unfold srcV at h
  split at h <;> try (cases h; done)
  · rename_i b2 o m c
    obtain ⟨gt, h⟩ := wb_ok h
    obtain ⟨gne, h⟩ := wb_ok h
    obtain ⟨ob, hg, hid, h⟩ := wO_ok h
    obtain ⟨g3, h⟩ := wb_ok h
    obtain ⟨g4, h⟩ := wb_ok h
    exact .inl ⟨b2, o, m, c, ob, rfl, Nat.eq_of_beq_eq_true gt, fun e => (by subst e; rw [Nat.beq_refl] at gne; cases gne), hg, hid, g3, g4, h⟩
  · rename_i l
    obtain ⟨g1, h⟩ := wb_ok h
    obtain ⟨g2, h⟩ := wb_ok h
    obtain ⟨g3, h⟩ := wb_ok h
    rw [fN_eq] at h
    exact .inr ⟨l, rfl, g1, Nat.eq_of_beq_eq_true g2, g3, h⟩
theorem apX_ok {t u : Nat} {z : Nat × Nat × Nat} {y x : SV} (h : apX P t u z s y x = .ok v s') : (x = .nils ∧ srcV P t u s z.2.1 s.nx y (apN z.1 z.2.1 z.2.2 s) = .ok v s') ∨ (∃ b o n c, x = .sli b o n c ∧ srcV P t u s z.2.1 b y (apS z.1 z.2.1 z.2.2 s b o n c) = .ok v s') := by
  unfold apX at h
  split at h <;> try (cases h; done)
  · exact .inl ⟨rfl, h⟩
  · exact .inr ⟨_, _, _, _, rfl, h⟩
theorem ap_nil {op : Op} {m T sz by_ : Nat} {ys : List SV} {ws : List Value} (h : apN T sz by_ s m ys = .ok v s') (hf : Fr ρ s.nx) (hys : dens ρ ys = some ws)
    (hx : m * by_ ≤ 140737488355328 → OpX C op ty E (Sl none 0 0 T sz [] :: (denH ρ s.h ++ F)) (fun V L' => ∃ p' cap', V = .slice p' (0 + m) cap' ∧ L' = Sl p' (0 + m) cap' T sz ([] ++ ws) :: (denH ρ s.h ++ F))) : OkX C ty op E ρ s s' v F := by
  obtain ⟨g5, h⟩ := wb_ok h
  obtain ⟨g6, h⟩ := wb_ok h
  rw [forceL_eq] at h
  intro d pos aft g a w K Q ha hi hK
  refine app_new (F := F) (L := Sl none 0 0 T sz [] :: (denH ρ s.h ++ F)) h rfl (blt_lt g5) hys hf ?_ d pos aft g a w K Q ha (hi.add0 (.inl ⟨rfl, rfl, rfl, rfl⟩)) hK
  have := hx (Nat.le_of_ble_eq_true g6)
  rw [Nat.zero_add, List.nil_append] at this
  exact this
theorem ap_sli {op : Op} {A : Value} {b1 o1 n c m T sz by_ : Nat} {ys : List SV} {ws : List Value} (h : apS T sz by_ s b1 o1 n c m ys = .ok v s') (hf : Fr ρ s.nx) (hA : den ρ (.sli b1 o1 n c) = some A) (hys : dens ρ ys = some ws)
    (hx : ∀ {p : Option Addr} {cap : Nat} {vs' : List Value}, A = .slice p n cap → (n + m) * by_ ≤ 140737488355328 → OpX C op ty E (Sl p n cap T sz vs' :: (denH ρ (s.h.set b1 none) ++ F)) (fun V L' => ∃ p' cap', V = .slice p' (n + m) cap' ∧ L' = Sl p' (n + m) cap' T sz (vs' ++ ws) :: (denH ρ (s.h.set b1 none) ++ F))) : OkX C ty op E ρ s s' v F := by
  obtain ⟨g5, h⟩ := wb_ok h
  obtain ⟨g6, h⟩ := wb_ok h
  obtain ⟨g7, h⟩ := wb_ok h
  obtain ⟨ob, hg, hid, h⟩ := wO_ok h
  obtain ⟨g8, h⟩ := wb_ok h
  obtain ⟨g9, h⟩ := wb_ok h
  obtain ⟨g10, h⟩ := wb_ok h
  rw [forceL_eq, fN_eq] at h
  have g8 : ob.T = T := Nat.eq_of_beq_eq_true g8
  have g9 : ob.sz = sz := Nat.eq_of_beq_eq_true g9
  have g7 := Nat.le_of_ble_eq_true g7
  have g10 : o1 + c * sz ≤ ob.cs.length := Nat.le_of_ble_eq_true g10
  have hN := blt_lt g5
  have hlim : (n + m) * by_ ≤ 140737488355328 := Nat.le_of_ble_eq_true g6
  obtain ⟨z, hz, rfl⟩ := den_sli hA
  intro d pos aft g a w K Q ha hi hK
  obtain ⟨y', pre, vs, post, e1, e2, e3, e4, e5, hi1⟩ := inv_open hg hi
  have e1' := e1
  rw [hid, hz] at e1'
  cases e1'
  have hcut : dens ρ (cut ob.cs o1 (Nat.mul n sz)) = some ((vs.drop o1).take (n * sz)) := dens_take _ (dens_drop o1 e2)
  have hvl := dens_len e2
  have hnc : n * sz ≤ c * sz := Nat.mul_le_mul_right _ g7
  have hl : ((vs.drop o1).take (n * sz)).length = n * sz := by rw [List.length_take, List.length_drop]; omega
  have hsplit : pre ++ vs ++ post = (pre ++ vs.take o1) ++ (vs.drop o1).take (n * sz) ++ (vs.drop (o1 + n * sz) ++ post) := by
    have e1 : vs = vs.take o1 ++ ((vs.drop o1).take (n * sz) ++ vs.drop (o1 + n * sz)) := by
      conv => lhs; rw [← List.take_append_drop o1 vs, ← List.take_append_drop (n * sz) (vs.drop o1), List.drop_drop]
    conv => lhs; rw [e1]
    simp only [List.append_assoc]
  have hi2 : Inv C.w0 (Sl (some ⟨z.1, z.2.1 + o1, none⟩) n (c + z.2.2) T sz ((vs.drop o1).take (n * sz)) :: (denH ρ (s.h.set b1 none) ++ F)) w := by
    refine Inv.imp (fun h hc => .inr ⟨z.1, z.2.1 + o1, pre ++ vs.take o1, vs.drop (o1 + n * sz) ++ post, rfl, ?_, ?_, hl, ?_, by omega⟩) hi1
    · rw [← hsplit, ← g8]; exact hc
    · rw [List.length_append, List.length_take]; omega
    · rw [List.length_append, List.length_drop, show c + z.2.2 - n = (c - n) + z.2.2 by omega, Nat.add_mul, Nat.sub_mul]
      rw [g9] at e4
      omega
  exact app_new (s1 := ⟨s.h.set b1 none, s.nx⟩) (F := F) h rfl (Nat.lt_of_lt_of_le hN (Nat.le_add_left _ _)) (dens_app hcut hys) hf (hx rfl hlim) d pos aft g a w K Q ha hi2 hK
theorem str_cells {l : List Nat} (h : bytB l = true) : (strV l).data.toList.map (fun b => Value.int .u8 b.toNat) = l.map (fun n : Nat => Value.int .u8 (n : Int)) := by
  rw [strV_nums, num_map _ (bytB_int h), List.map_map]
  rfl
theorem cApp_ok : SoundB C .append cApp := fun {e s s' v E ρ ty F ts xs} h hE hf => by
  unfold cApp at h
  split at h <;> try (cases h; done)
  split at h <;> try (cases h; done)
  rename_i t u _ _ x y
  obtain ⟨⟨T, sz, by_⟩, h1, h⟩ := wo_ok h
  obtain ⟨zs, h2, h⟩ := wo_ok h
  obtain ⟨g1, h⟩ := wb_ok h
  obtain ⟨g2, h⟩ := wb_ok h
  obtain ⟨a, h3, h⟩ := w1_ok h
  obtain ⟨b, h4, h⟩ := w1_ok h
  obtain ⟨A, hx, hA⟩ := ev_ok hE h3
  obtain ⟨B, hy, hB⟩ := ev_ok hE h4
  unfold apE at h
  cases hemp : isE b with
  | true =>
    rw [hemp] at h
    obtain ⟨g0, h⟩ := wb_ok h
    obtain ⟨g3, h⟩ := wb_ok h
    cases h
    have g0 := Nat.eq_of_beq_eq_true g0
    rw [← g0]
    have hB0 : ∃ p2 cap2, B = .slice p2 0 cap2 := by
      unfold isE at hemp
      split at hemp
      · cases hB; exact ⟨_, _, rfl⟩
      · obtain ⟨z, _, rfl⟩ := den_sli hB; obtain rfl := Nat.eq_of_beq_eq_true hemp; exact ⟨_, _, rfl⟩
      · cases hemp
    obtain ⟨p2, cap2, rfl⟩ := hB0
    unfold okA at g3
    split at g3
    · cases hA; exact okV (v_app0 h1 hx hy (Nat.le_refl _)) rfl hf
    · have g3 := Nat.le_of_ble_eq_true g3
      have hA' := hA
      obtain ⟨z, _, rfl⟩ := den_sli hA
      exact okV (v_app0 h1 hx hy (by omega)) hA' hf
    · cases g3
  | false =>
    rw [hemp] at h
    rcases apX_ok h with ⟨rfl, h⟩ | ⟨b1, o1, n, c, rfl, h⟩
    · cases hA
      rcases srcV_ok h with ⟨b2, o, m, c2, ob, rfl, rfl, _, hg, hid, g3, g4, h⟩ | ⟨l, rfl, q1, q2, q3, h⟩
      · obtain ⟨z, hz, rfl⟩ := den_sli hB
        intro d pos aft g a w K Q ha hi hK
        obtain ⟨y', pre, vs, post, e1, e2, e3, e4, e5, _⟩ := inv_open hg hi
        have e1' := e1
        rw [hid, hz] at e1'
        cases e1'
        have hcut : dens ρ (cut ob.cs o (Nat.mul m sz)) = some ((vs.drop o).take (m * sz)) := dens_take _ (dens_drop o e2)
        have hl : ((vs.drop o).take (m * sz)).length = m * sz := by rw [dens_len hcut]; exact lenIs_ok g3
        refine ap_nil h hf hcut (fun hlim => ?_) d pos aft g a w K Q ha hi hK
        exact x_append (n := 0) (m := m) (R := HO ρ ob) h1 h2 g1 g2 hx hy Rem.head (List.mem_cons_of_mem _ (List.mem_append_left _ ((H_get (ρ := ρ) hg.1).mem_iff.2 (List.mem_cons_self)))) (fun h hh => HO_rd hg.2 e1 e2 hl hh) (ones_ok g4 hcut) (by rw [Nat.zero_add]; exact hlim)
      · cases hB
        refine ap_nil h hf (bytesV_ok l) (fun hlim => ?_)
        exact x_appendS (n := 0) (m := l.length) h1 (isStr_ok q1) h2 q2 g2 hx hy (str_cells q3) (by simp [strV, ByteArray.size]) Rem.head (by rw [Nat.zero_add]; exact hlim)
    · rcases srcV_ok h with ⟨b2, o2, m, c2, ob2, rfl, rfl, hne, hg2, hid2, g3, g4, h⟩ | ⟨l, rfl, q1, q2, q3, h⟩
      · obtain ⟨z2, hz2, rfl⟩ := den_sli hB
        intro d pos aft g a w K Q ha hi hK
        obtain ⟨y2, _, vs2, _, f1, f2, _, _, _, _⟩ := inv_open hg2 hi
        have f1' := f1
        rw [hid2, hz2] at f1'
        cases f1'
        have hcut2 : dens ρ (cut ob2.cs o2 (Nat.mul m sz)) = some ((vs2.drop o2).take (m * sz)) := dens_take _ (dens_drop o2 f2)
        have hl2 : ((vs2.drop o2).take (m * sz)).length = m * sz := by rw [dens_len hcut2]; exact lenIs_ok g3
        have hmem : HO ρ ob2 ∈ denH ρ (s.h.set b1 none) := by
          refine (H_get (ρ := ρ) (b := b2) (o := ob2) ?_).mem_iff.2 List.mem_cons_self
          rw [Tr.get_set, if_neg (fun e => hne e.symm)]
          exact hg2.1
        refine ap_sli h hf hA hcut2 (fun {p cap vs'} hAe hlim => ?_) d pos aft g a w K Q ha hi hK
        subst hAe
        exact x_append (n := n) (m := m) (R := HO ρ ob2) h1 h2 g1 g2 hx hy Rem.head (List.mem_cons_of_mem _ (List.mem_append_left _ hmem)) (fun h hh => HO_rd hg2.2 f1 f2 hl2 hh) (ones_ok g4 hcut2) hlim
      · cases hB
        refine ap_sli h hf hA (bytesV_ok l) (fun {p cap vs'} hAe hlim => ?_)
        subst hAe
        exact x_appendS (n := n) (m := l.length) h1 (isStr_ok q1) h2 q2 g2 hx hy (str_cells q3) (by simp [strV, ByteArray.size]) Rem.head hlim
end
end Go.Cr
namespace Go.Cr
open Go.Sl
section
variable {C : Ctx} {ty : TypeId} {E : Env} {ρ : Ren} {s s' s1 : St} {v : SV} {V : Value} {F : List HProp} {e : En} {w0 w : World}
def isZ (P : Program) (u : Nat) : Bool := match P.underlying u with | some (.int _) => true | _ => false
theorem isZ_ok {P : Program} {u : Nat} (h : isZ P u = true) : ∃ k, P.underlying u = some (.int k) := by
  unfold isZ at h
  split at h
  · rename_i k h2; exact ⟨k, h2⟩
  · cases h
noncomputable def repZ (m : Nat) (z : List SV) : List SV := Nat.rec [] (fun _ ih => z ++ ih) m
theorem repZ_ok {z : List SV} {zs : List Value} (h : dens ρ z = some zs) : ∀ m, dens ρ (repZ m z) = some (List.replicate m zs).flatten
  | 0 => rfl
  | m + 1 => by
    rw [List.replicate_succ, List.flatten_cons]
    exact dens_app h (repZ_ok h m)
noncomputable def azM (z : Nat × Nat × Nat) (s : St) (m : Nat) (ys : List SV) (a : SV) : R1 := match a with
  | .nils => apN z.1 z.2.1 z.2.2 s m ys
  | .sli b o n c => wO s b fun ob => wb ob.ex (wb (Nat.blt c (Nat.add n m)) (apS z.1 z.2.1 z.2.2 s b o n c m ys))
  | _ => .no
noncomputable def azV (z : Nat × Nat × Nat) (s : St) (q : List SV) (b a : SV) : R1 := match b with
  | .int _ m => (match m with | .ofNat m => azM z s m (repZ m q) a | _ => .no)
  | _ => .no
noncomputable def cApZ : Fb := fun ts xs P e s => match ts with
  | [t, u] => (match xs with | [x, y] => wb (isZ P u) (wo (sliceB P t) fun z => wo (zeros P z.1) fun q => wb (Nat.ble 1 z.2.1) (wb (Nat.ble 1 z.2.2) (w1 x e fun a => w1 y e fun b => azV z s q b a))) | _ => .no)
  | _ => .no
theorem app_z {t u T sz by_ n m cap : Nat} {x y : Operand} {p : Option Addr} {vs zs : List Value} {k : IntKind} {L : List HProp} {d : Nat} (h1 : sliceB C.P t = some (T, sz, by_)) (hI : ∃ k', C.P.underlying u = some (.int k')) (hz : zeroB C.P T = some zs) (g1 : Nat.ble 1 sz = true) (g2 : Nat.ble 1 by_ = true)
    (hx : evalE E x = some (.slice p n cap)) (hy : evalE E y = some (.int k (m : Int))) (hr : cap < n + m) (hb : (n + m) * by_ ≤ 140737488355328) :
    OpX C (.call ⟨.builtin .append, [x, y].toArray, #[t, u]⟩) ty E (Sl p n cap T sz vs :: L) (fun v L' => ∃ p' cap', v = .slice p' (n + m) cap' ∧ L' = Sl p' (n + m) cap' T sz (vs ++ (List.replicate m zs).flatten) :: L) := by
  intro d pos aft g a w K Q ha hi hK
  obtain ⟨k', hI⟩ := hI
  refine x_appendZ (L := Sl p n cap T sz vs :: L) (R := Sl p n cap T sz vs) h1 hI hz g1 g2 hx hy List.mem_cons_self (fun h hh => Sl.rd hh) hr hb d pos aft g a w K Q ha hi ?_
  rintro V L' w' ⟨p', cap', rfl, rfl⟩ hi'
  exact hK _ _ w' ⟨p', cap', rfl, rfl⟩ (hi'.perm (List.Perm.swap _ _ _)).tail
theorem cApZ_ok : SoundB C .append cApZ := fun {e s s' v E ρ ty F ts xs} h hE hf => by
  unfold cApZ at h
  split at h <;> try (cases h; done)
  split at h <;> try (cases h; done)
  rename_i t u _ _ x y
  obtain ⟨g0, h⟩ := wb_ok h
  obtain ⟨⟨T, sz, by_⟩, h1, h⟩ := wo_ok h
  obtain ⟨q, h2, h⟩ := wo_ok h
  obtain ⟨zs, h2, hq⟩ := zeros_ok h2
  obtain ⟨g1, h⟩ := wb_ok h
  obtain ⟨g2, h⟩ := wb_ok h
  obtain ⟨a, h3, h⟩ := w1_ok h
  obtain ⟨b, h4, h⟩ := w1_ok h
  obtain ⟨A, hx, hA⟩ := ev_ok hE h3
  obtain ⟨B, hy, hB⟩ := ev_ok hE h4
  unfold azV at h
  split at h <;> try (cases h; done)
  split at h <;> try (cases h; done)
  rename_i k _ m
  cases hB
  unfold azM at h
  split at h <;> try (cases h; done)
  · cases hA
    refine ap_nil h hf (repZ_ok (hq ρ) m) (fun hlim => ?_)
    have g5 : 0 < m := blt_lt (wb_ok h).1
    exact app_z (d := 0) (n := 0) (m := m) h1 (isZ_ok g0) h2 g1 g2 hx hy (by omega) (by rw [Nat.zero_add]; exact hlim)
  · rename_i b1 o1 n c _
    obtain ⟨ob, hg, hid, h⟩ := wO_ok h
    obtain ⟨hex, h⟩ := wb_ok h
    obtain ⟨hlt, h⟩ := wb_ok h
    obtain ⟨z, hz, hAe⟩ := den_sli hA
    intro d pos aft g a w K Q ha hi hK
    obtain ⟨y', pre, vs, post, e1, e2, e3, e4, e5, _⟩ := inv_open hg hi
    rw [hid, hz] at e1
    cases e1
    refine ap_sli h hf hA (repZ_ok (hq ρ) m) (fun {p cap vs'} hA2 hlim => ?_) d pos aft g a w K Q ha hi hK
    rw [hAe] at hA2
    have := e5 hex
    have hlt : c < n + m := blt_lt hlt
    cases hA2
    subst hAe
    exact app_z (d := 0) (n := n) (m := m) h1 (isZ_ok g0) h2 g1 g2 hx hy (by omega) hlim
noncomputable def cApY : Fb := fun ts xs P e s => match ts with
  | [t, u] => Bool.rec (cApp [t, u] xs P e s) (cApZ [t, u] xs P e s) (isZ P u)
  | _ => .no
theorem cApY_ok : SoundB C .append cApY := fun {e s s' v E ρ ty F ts xs} h hE hf => by
  unfold cApY at h
  split at h <;> try (cases h; done)
  rename_i t u
  cases hz : isZ C.P u with
  | false => rw [hz] at h; exact cApp_ok h hE hf
  | true => rw [hz] at h; exact cApZ_ok h hE hf
end
end Go.Cr

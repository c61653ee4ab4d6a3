/- Walks of functions that the law reaches, and what they lean on; no conditions. -/
import Derived.Test.YtookicfejdbddaaGreatM18
import Derived.LoopN
import Derived.Scope
set_option linter.unusedVariables false
set_option linter.unusedSimpArgs false
set_option linter.unnecessarySimpa false
set_option maxRecDepth 100000
namespace Go.Cr
open Go.Sl
theorem zeroCells_list {Z : Array Value} {zs : List Value} (h : Z = zs.toArray) (m : Nat) : (Builtin.zeroCells Z m).toList = (List.replicate m zs).flatten := by
  subst h
  simp only [Builtin.zeroCells]
  rw [← zero_flat]
  simp
section
variable {C : Ctx} {ty : TypeId} {E : Env} {ρ : Ren} {s s' s1 : St} {v : SV} {V : Value} {F : List HProp} {e : En} {w0 w : World} {P : Program}
noncomputable def clS (s : St) (b o k : Nat) (z : List SV) (ob : Ob) : R1 := wb (Nat.beq (List.replicate k z).flatten.length (Nat.mul k z.length)) (wb (Nat.ble (Nat.add o (Nat.mul k z.length)) ob.cs.length) (setsK (List.replicate k z).flatten ob.cs o (putO s b ob (.tup []))))
noncomputable def clrV (P : Program) (t : Nat) (s : St) (v : SV) : R1 := match v with
  | .sli b o n _ => wo (sliceB P t) fun x => Nat.rec (.ok (.tup []) s) (fun k _ => wo (zeros P x.1) fun z => wb (ones z) (wO s b (clS s b o (Nat.succ k) z))) n
  | .nils => wo (sliceB P t) fun _ => .ok (.tup []) s
  | _ => .no
noncomputable def cClr : Fb := fun ts xs P e s => match ts with | [t] => (match xs with | [x] => w1 x e (clrV P t s) | _ => .no) | _ => .no
theorem cClr_ok : SoundB C .clear cClr := fun {e s s' v E ρ ty F ts xs} h hE hf => by
  unfold cClr at h
  split at h <;> try (cases h; done)
  split at h <;> try (cases h; done)
  rename_i t _ x
  obtain ⟨a, h1, h⟩ := w1_ok h
  obtain ⟨A, hx, hA⟩ := ev_ok hE h1
  have skip : ∀ {V : Value} {T sz by_ : Nat}, sliceB C.P t = some (T, sz, by_) → evalE E x = some V → ((∃ n c, V = .slice none n c) ∨ ∃ p c, V = .slice p 0 c) → OkX C ty (.call ⟨.builtin .clear, [x].toArray, [t].toArray⟩) E ρ s s (.tup []) F := by
    intro V T sz by_ h2 hx hV
    refine okV (V := .tuple #[]) ?_ rfl hf
    intro d pos aft g a w ha hi
    obtain ⟨ht1, i, hi2, rfl, rfl⟩ := slice_spec h2
    obtain ⟨consts, hrun⟩ := run_resolve_builtin (C := C) (ty := ty) (pos := pos) (aft := aft) (b := .clear) (xs := [x]) (tys := #[t]) (vs := [V]) (a := a) (by simp [ha.eval hx]) d g w
    refine ⟨w, .inl ?_, hi, fun h => by cases h⟩
    rw [show [t].toArray = #[t] from rfl, hrun]
    rcases hV with ⟨n, c, rfl⟩ | ⟨p, c, rfl⟩
    · cases n <;> simp [builtin, Builtin.clear_, run_underlying ht1]
    · cases p <;> simp [builtin, Builtin.clear_, run_underlying ht1]
  unfold clrV at h
  split at h <;> try (cases h; done)
  · rename_i b o n c
    obtain ⟨⟨T, sz, by_⟩, h2, h⟩ := wo_ok h
    obtain ⟨q, hq, rfl⟩ := den_sli hA
    cases n with
    | zero =>
      cases h
      exact skip h2 hx (.inr ⟨_, _, rfl⟩)
    | succ k =>
      obtain ⟨z, h3, h⟩ := wo_ok (x := zeros C.P T) (k := fun z => wb (ones z) (wO s b (clS s b o (Nat.succ k) z))) h
      obtain ⟨h4, h⟩ := wb_ok h
      obtain ⟨ob, hg, hid, h⟩ := wO_ok h
      obtain ⟨h5, h⟩ := wb_ok h
      obtain ⟨h6, h⟩ := wb_ok h
      rw [setsK_eq] at h
      cases h
      obtain ⟨zs, h7, h8⟩ := zeros_ok h3
      have hz1 := ones_ok h4 (h8 ρ)
      have h6 := Nat.le_of_ble_eq_true h6
      intro d pos aft g a w K Q ha hi hK
      obtain ⟨y', pre, vs, post, e1, e2, e3, e4, e5, hi1⟩ := inv_open hg hi
      have e1' := e1
      rw [hid, hq] at e1'
      cases e1'
      obtain ⟨ht1, i, hi2, rfl, rfl⟩ := slice_spec h2
      obtain ⟨i', Z, hz2, hz3, hz4, hz5⟩ := zero_spec h7
      rw [hi2] at hz2
      cases hz2
      obtain ⟨consts, hrun⟩ := run_resolve_builtin (C := C) (ty := ty) (pos := pos) (aft := aft) (b := .clear) (xs := [x]) (tys := #[t]) (vs := [.slice (some ⟨q.1, q.2.1 + o, none⟩) (k + 1) (c + q.2.2)]) (a := a) (by simp [ha.eval hx]) d g w
      have hzz : (Builtin.zeroCells Z.cells (k + 1)).toList = (List.replicate (k + 1) zs).flatten := zeroCells_list hz4 (k + 1)
      have hzl : z.length = zs.length := (dens_len (h8 ρ)).symm
      have hrl : (List.replicate (k + 1) zs).flatten.length = (k + 1) * zs.length := by simp
      have hvl := dens_len e2
      have hfit : o + (k + 1) * zs.length ≤ vs.length := by
        rw [hvl, ← hzl]
        exact h6
      have ho1 : ∀ u ∈ (List.replicate (k + 1) zs).flatten, u.oneCell' = true := by
        intro u hu
        obtain ⟨l, hl, hu2⟩ := List.mem_flatten.1 hu
        rw [(List.mem_replicate.1 hl).2] at hu2
        exact List.all_eq_true.1 hz1 _ hu2
      obtain ⟨w', hr, hi'⟩ := run_storeCells (C := C) (List.replicate (k + 1) zs).flatten (q.2.1 + o) 0 _ _ w ho1 (by simp only [List.length_append, hrl]; omega) hi1
      have hx' : (execOp a.eval ⟨d, .call ⟨.builtin .clear, [x].toArray, [t].toArray⟩, ty, pos, aft, g⟩).run C.P w = .ok (.value (.tuple #[])) w' := by
        rw [show [t].toArray = #[t] from rfl, hrun]
        simp [builtin, Builtin.clear_, run_underlying ht1, zeroValue, typeInfo, hi2, hz3, hzz, hr]
      unfold Oper.wp
      rw [hx']
      have hd : dens ρ (List.replicate (k + 1) z).flatten = some (List.replicate (k + 1) zs).flatten := dens_rep (h8 ρ) _
      have hset := dens_sets (cs := ob.cs) o e2 hd (by rw [hrl]; exact hfit)
      refine hK _ _ w' ⟨ρ, Ext.refl _, hf, rfl, Sub.refl _⟩ (inv_close (ob := ⟨ob.id, ob.T, ob.sz, ob.ex, setsP ob.cs o (List.replicate (k + 1) z).flatten⟩) (t := s.h) (b := b) hg.2 e1 hset e3 e4 e5 ?_)
      have hsh : (pre ++ vs ++ post).take (q.2.1 + o + 0) ++ (List.replicate (k + 1) zs).flatten ++ (pre ++ vs ++ post).drop (q.2.1 + o + 0 + (List.replicate (k + 1) zs).flatten.length) = pre ++ (vs.take o ++ (List.replicate (k + 1) zs).flatten ++ vs.drop (o + (List.replicate (k + 1) zs).flatten.length)) ++ post := by
        rw [Nat.add_zero, List.append_assoc pre vs post, List.take_append, List.drop_append, List.take_of_length_le (by omega), List.drop_eq_nil_of_le (by omega : pre.length ≤ q.2.1 + o + (List.replicate (k + 1) zs).flatten.length), show q.2.1 + o - pre.length = o by omega, show q.2.1 + o + (List.replicate (k + 1) zs).flatten.length - pre.length = o + (List.replicate (k + 1) zs).flatten.length by omega,
          List.take_append_of_le_length (by omega), List.drop_append_of_le_length (by omega)]
        simp [List.append_assoc]
      rw [hsh] at hi'
      exact hi'
  · obtain ⟨⟨T, sz, by_⟩, h2, h⟩ := wo_ok h
    cases h
    cases hA
    exact skip h2 hx (.inl ⟨_, _, rfl⟩)
noncomputable def s2V (t : Nat) (P : Program) (s : St) (v : SV) : R1 := match v with
  | .sli b o n _ => wo (arrayB P t) fun z => wb (Nat.ble z.1 n) (.ok (.ptr b o) s)
  | _ => .no
noncomputable def oS2 (t : Nat) (x : Operand) : Fo := fun P _ e s => w1 x e (s2V t P s)
theorem v_s2 {t n el sz m c : Nat} {p : Option Addr} {x : Operand} {L : List HProp} (h : arrayB C.P t = some (n, el, sz)) (hx : evalE E x = some (.slice p m c)) (hn : n ≤ m) : OpV C (.sliceToArrayPointer t x) ty E L (.pointer p) L :=
  pureV fun d pos aft g a w ha => by
    obtain ⟨h1, i, h2, h3⟩ := array_spec h
    simp [execOp, ha.eval hx, Instr.arrayAt, run_underlying h1, Nat.not_lt.2 hn]
theorem oS2_ok {call : Cl} {t : Nat} {x : Operand} : Sound C call (.sliceToArrayPointer t x) (oS2 t x) := fun {e s s' v E ρ ty F} h hE hf => by
  obtain ⟨a, h1, h⟩ := w1_ok h
  obtain ⟨A, hx, hA⟩ := ev_ok hE h1
  unfold s2V at h
  split at h <;> try (cases h; done)
  obtain ⟨z, h2, h⟩ := wo_ok h
  obtain ⟨h3, h⟩ := wb_ok h
  cases h
  obtain ⟨q, hq, rfl⟩ := den_sli hA
  exact okV (v_s2 (n := z.1) (el := z.2.1) (sz := z.2.2) h2 hx (Nat.le_of_ble_eq_true h3)) (by simp [den, hq]) hf
def fieldT (P : Program) (s f : Nat) : Option Nat := match P.underlying s with | some (.struct fs) => (match fs[f]? with | some fd => some fd.type | none => none) | _ => none
theorem fieldT_ok {t f ft : Nat} (h : fieldT P t f = some ft) : ∃ fs fd, P.underlying t = some (.struct fs) ∧ fs[f]? = some fd ∧ fd.type = ft := by
  unfold fieldT at h
  split at h <;> try (cases h; done)
  rename_i fs hfs
  split at h <;> try (cases h; done)
  rename_i fd hfd
  cases h
  exact ⟨fs, fd, hfs, hfd, rfl⟩
noncomputable def fdV (t f : Nat) (P : Program) (s : St) (v : SV) : R1 := match v with
  | .agg l => wo (fieldB P t f) fun o => wo (fieldT P t f) fun ft => wb (scalarB P ft) (wo (getL l o) fun v => .ok v s)
  | _ => .no
noncomputable def oFd (t : Nat) (x : Operand) (f : Nat) : Fo := fun P _ e s => w1 x e (fdV t f P s)
theorem oFd_ok {call : Cl} {t f : Nat} {x : Operand} : Sound C call (.field t x f) (oFd t x f) := fun {e s s' v E ρ ty F} h hE hf => by
  obtain ⟨a, h1, h⟩ := w1_ok h
  obtain ⟨A, hx, hA⟩ := ev_ok hE h1
  unfold fdV at h
  split at h <;> try (cases h; done)
  obtain ⟨o, h2, h⟩ := wo_ok h
  obtain ⟨ft, h3, h⟩ := wo_ok h
  obtain ⟨h4, h⟩ := wb_ok h
  obtain ⟨u, h5, h⟩ := wo_ok h
  cases h
  rw [getL_eq] at h5
  obtain ⟨vs, h6, rfl⟩ := den_agg hA
  obtain ⟨V, h7, h8⟩ := dens_get h6 h5
  exact okV (v_field (n := 0) h2 (fieldT_ok h3) h4 hx (by simpa using h7)) h8 hf
theorem v_tas {x : Operand} {xT T : TypeId} {u : Value} {ok : Bool} {L : List HProp} (hc : concB C.P T = true) (hx : evalE E x = some (.iface T u)) : OpV C (.typeAssert x xT T ok) ty E L (if ok then .tuple #[u, .bool true] else u) L :=
  pureV fun d pos aft g a w ha => by
    unfold concB at hc
    split at hc <;> try simp at hc
    rename_i ds hne hds
    simp only [execOp, ha.eval hx, Instr.typeAssert, Sem.run_bind, run_underlying hds, Result.andThen_ok]
    cases ds <;> first | (exact absurd rfl (hne _)) | simp [Sem.run_pure]
theorem v_tan {x : Operand} {xT T : TypeId} {V z : Value} {L : List HProp} (hc : concB C.P T = true) (hz : ∀ w, (zeroValue T).run C.P w = .ok z w) (hV : V = .nilIface ∨ ∃ t u, V = .iface t u ∧ t ≠ T) (hx : evalE E x = some V) : OpV C (.typeAssert x xT T true) ty E L (.tuple #[z, .bool false]) L :=
  pureV fun d pos aft g a w ha => by
    unfold concB at hc
    split at hc <;> try simp at hc
    rename_i ds hne hds
    simp only [execOp, ha.eval hx, Instr.typeAssert, Sem.run_bind, run_underlying hds, Result.andThen_ok]
    rcases hV with rfl | ⟨t, u, rfl, hn⟩
    · cases ds <;> first | (exact absurd rfl (hne _)) | simp [Sem.run_pure, hz]
    · cases ds <;> first | (exact absurd rfl (hne _)) | simp [Sem.run_pure, hn, hz]
noncomputable def taN (T : Nat) (ok : Bool) (P : Program) (s : St) : R1 := wb ok (wo (zV P T) fun z => .ok (.tup [z, .bool false]) s)
noncomputable def taV (T : Nat) (ok : Bool) (P : Program) (s : St) (v : SV) : R1 := match v with
  | .ifc t u => Bool.rec (taN T ok P s) (.ok (lkZ ok true u) s) (Nat.beq t T)
  | .nili => taN T ok P s
  | _ => .no
noncomputable def oTa (x : Operand) (_ T : Nat) (ok : Bool) : Fo := fun P _ e s => wb (concB P T) (w1 x e (taV T ok P s))
theorem taN_ok {T : Nat} {ok : Bool} (h : taN T ok P s = .ok v s') : ok = true ∧ s' = s ∧ ∃ Z, (∀ ρ, den ρ v = some (.tuple #[Z, .bool false])) ∧ ∀ w, (zeroValue T).run P w = .ok Z w := by
  obtain ⟨h1, h⟩ := wb_ok h
  obtain ⟨z, h2, h⟩ := wo_ok h
  cases h
  obtain ⟨Z, k1, k2⟩ := zV_ok h2
  exact ⟨h1, rfl, Z, fun ρ => by simp [den, dens, k1 ρ], k2⟩
theorem oTa_ok {call : Cl} {x : Operand} {xT T : Nat} {ok : Bool} : Sound C call (.typeAssert x xT T ok) (oTa x xT T ok) := fun {e s s' v E ρ ty F} h hE hf => by
  obtain ⟨h0, h⟩ := wb_ok h
  obtain ⟨a, h1, h⟩ := w1_ok h
  obtain ⟨A, hx, hA⟩ := ev_ok hE h1
  unfold taV at h
  split at h <;> try (cases h; done)
  · rename_i t u
    obtain ⟨U, hu, rfl⟩ := den_ifc hA
    cases hb : Nat.beq t T with
    | true =>
      rw [hb] at h
      cases h
      obtain rfl := Nat.eq_of_beq_eq_true hb
      exact okV (v_tas h0 hx) (lkZ_ok hu) hf
    | false =>
      rw [hb] at h
      obtain ⟨rfl, rfl, Z, k1, k2⟩ := taN_ok h
      exact okV (v_tan h0 k2 (.inr ⟨t, U, rfl, fun e => by subst e; rw [Nat.beq_refl] at hb; cases hb⟩) hx) (k1 ρ) hf
  · cases hA
    obtain ⟨rfl, rfl, Z, k1, k2⟩ := taN_ok h
    exact okV (v_tan h0 k2 (.inl rfl) hx) (k1 ρ) hf
end
end Go.Cr
namespace Go.Cr
open Go.Sl
section
variable {C : Ctx} {ty : TypeId} {E : Env} {ρ : Ren} {s s' s1 : St} {v : SV} {V : Value} {F : List HProp} {e : En} {w0 w : World}
def SoundC (P : Program) (call : Cl) : Prop := ∀ {g : Nat} {vs : List SV} {s s' : St} {v : SV}, call g vs s = .ok v s' → ∀ {ρ : Ren} {Vs : List Value}, Fr ρ s.nx → dens ρ vs = some Vs →
  Ctr P g Vs (denH ρ s.h) (Ret fun V G => ∃ σ, Ext ρ σ ∧ Fr σ s'.nx ∧ den σ v = some V ∧ G = denH σ s'.h)
theorem ok_call {call : Cl} (hc : SoundC C.P call) {g : Nat} {vs : List SV} {Vs : List Value} {op : Op} (h : call g vs s = .ok v s') (hf : Fr ρ s.nx) (hv : dens ρ vs = some Vs)
    (hr : ∀ d pos aft gd a w, Agr C E a → (execOp a.eval ⟨d, op, ty, pos, aft, gd⟩).run C.P w = .ok (.enter g Vs.toArray) w) : OkX C ty op E ρ s s' v F := by
  intro d pos aft gd a w K Q ha hi hK
  unfold Oper.wp
  rw [hr d pos aft gd a w ha]
  refine (hc h hf hv C.w0 F w hi).mono ?_
  rintro e w' ⟨G, h1, V, rfl, σ, k1, k2, k3, rfl⟩
  exact hK V _ w' ⟨σ, k1, k2, k3, Sub.refl _⟩ h1
noncomputable def clV (P : Program) (call : Cl) (s : St) (vs : List SV) (v : SV) : R1 := match v with | .fn g cs => wb (bodyB P g) (call g (vs ++ cs) s) | .bnd g fs => wb (bodyB P g) (call g (fs ++ vs) s) | _ => .no
noncomputable def ivV (m : String) (P : Program) (call : Cl) (s : St) (vs : List SV) (v : SV) : R1 := match v with
  | .ifc t u => wo (methB P t m) fun g => wb (bodyB P g) (call g (u :: vs) s)
  | _ => .no
noncomputable def callB (b : Builtin) : Fb := match b with | .len => cLenY | .cap => cCap | .min => cMin | .max => cMax | .append => cApY | .copy => cCopy | .clear => cClr | _ => fun _ _ _ _ _ => .no
noncomputable def callee (c : Callee) : List Nat → List Operand → Fo := Callee.rec (motive := fun _ => List Nat → List Operand → Fo)
  (fun f _ xs P call e s => wo (evl xs e) fun vs => w1 f e (clV P call s vs))
  (fun r m _ xs P call e s => wo (evl xs e) fun vs => w1 r e (ivV m P call s vs))
  (fun b ts xs P _ e s => callB b ts xs P e s) c
noncomputable def oCall (c : Call) : Fo := callee c.callee c.argTypes.toList c.args.toList
theorem callB_ok {b : Builtin} : SoundB C b (callB b) := fun {e s s' v E ρ ty F ts xs} h hE hf => by
  unfold callB at h
  split at h
  · exact cLenY_ok h hE hf
  · exact cCap_ok h hE hf
  · exact cMin_ok h hE hf
  · exact cMax_ok h hE hf
  · exact cApY_ok h hE hf
  · exact cCopy_ok h hE hf
  · exact cClr_ok h hE hf
  · cases h
theorem oCall_ok {call : Cl} (hc : SoundC C.P call) {c : Call} : Sound C call (.call c) (oCall c) := fun {e s s' v E ρ ty F} h hE hf => by
  obtain ⟨cal, ⟨xs⟩, ⟨ts⟩⟩ := c
  cases cal with
  | value f =>
    obtain ⟨vs, h1, h⟩ := wo_ok (show wo (evl xs e) (fun vs => w1 f e (clV C.P call s vs)) = .ok v s' from h)
    obtain ⟨a, h2, h⟩ := w1_ok h
    obtain ⟨Vs, k1, k2⟩ := evl_ok hE h1
    obtain ⟨A, hx, hA⟩ := ev_ok hE h2
    unfold clV at h
    split at h <;> try (cases h; done)
    · obtain ⟨g1, h⟩ := wb_ok h
      obtain ⟨Cs, k3, rfl⟩ := den_fn hA
      refine ok_call hc h hf (dens_app k2 k3) ?_
      intro d pos aft gd a w ha
      have hargs := ha.evs k1
      have hev := ha.eval hx
      simp only [execOp, resolve, hargs, hev, Deferred.ofValue, invoke, Sem.run_bind, Sem.run_pure, Result.andThen_ok, run_callFunc g1]
      simp
    · obtain ⟨g1, h⟩ := wb_ok h
      obtain ⟨Cs, k3, rfl⟩ := den_bnd hA
      refine ok_call hc h hf (dens_app k3 k2) ?_
      intro d pos aft gd a w ha
      have hargs := ha.evs k1
      have hev := ha.eval hx
      simp only [execOp, resolve, hargs, hev, Deferred.ofValue, invoke, Sem.run_bind, Sem.run_pure, Result.andThen_ok, run_callFunc g1]
      simp
  | invoke r m =>
    obtain ⟨vs, h1, h⟩ := wo_ok (show wo (evl xs e) (fun vs => w1 r e (ivV m C.P call s vs)) = .ok v s' from h)
    obtain ⟨a, h2, h⟩ := w1_ok h
    obtain ⟨Vs, k1, k2⟩ := evl_ok hE h1
    obtain ⟨A, hx, hA⟩ := ev_ok hE h2
    unfold ivV at h
    split at h <;> try (cases h; done)
    obtain ⟨g, h3, h⟩ := wo_ok h
    obtain ⟨g1, h⟩ := wb_ok h
    obtain ⟨U, k3, rfl⟩ := den_ifc hA
    refine ok_call hc h hf (dens_mk k3 k2) ?_
    intro d pos aft gd a w ha
    have hargs := ha.evs k1
    have hev := ha.eval hx
    have hx : ∀ (T : Nat) (Vs : List Value), (#[Value.iface T U] ++ Vs.toArray)[0]? = some (Value.iface T U) := fun T Vs => by simp
    have hy : ∀ (T : Nat) (Vs : List Value), (#[Value.iface T U] ++ Vs.toArray).extract 1 (#[Value.iface T U] ++ Vs.toArray).size = Vs.toArray := fun T Vs => by
      apply Array.ext'; simp
    simp only [execOp, resolve, hargs, hev, invoke, Sem.run_bind, Sem.run_pure, Result.andThen_ok, hx, hy, callMethod]
    simp only [Made.depth, run_method h3, Result.andThen_ok, Go.Sl.run_program]
    simp [run_callFunc g1]
  | builtin b => exact callB_ok (show callB b ts xs C.P e s = .ok v s' from h) hE hf
def oNo : Fo := fun _ _ _ _ => .no
noncomputable def op1 (o : Op) : Fo := Op.rec (motive := fun _ => Fo) oMove oMove oPick oAlloc oBox oBuild oBuildSl oMu oLoad oStore (fun _ => oNo) (fun _ => oNo) oNil oBin oUn oConv
  oS2 oIfc oMkF oMkM (fun _ _ => oNo) oMkS oSlice oFa oFd oIa oIx oLk oMu (fun _ _ _ => oNo) (fun _ _ _ _ => oNo) (fun _ _ => oNo) (fun _ _ => oNo) (fun _ => oNo)
  oTa oExt oCall (fun _ => oNo) (fun _ => oNo) (fun _ => oNo) (fun _ _ => oNo) (fun _ _ _ => oNo) (fun _ _ => oNo) o
theorem op1_ok {call : Cl} (hc : SoundC C.P call) {o : Op} : Sound C call o (op1 o) := by
  cases o
  case move => exact oMove_ok (call := call)
  case assign => exact oAssign_ok (call := call)
  case pick => exact oPick_ok (call := call)
  case alloc => exact oAlloc_ok (call := call)
  case box => exact oBox_ok (call := call)
  case build => exact oBuild_ok (call := call)
  case buildSlice => exact oBuildSl_ok (call := call)
  case load => exact oLoad_ok (call := call)
  case store => exact oStore_ok (call := call)
  case nilCheck => exact oNil_ok (call := call)
  case binOp => exact oBin_ok (call := call)
  case unOp => exact oUn_ok (call := call)
  case convert => exact oConv_ok (call := call)
  case makeInterface => exact oIfc_ok (call := call)
  case makeFunc => exact oMkF_ok (call := call)
  case makeSlice => exact oMkS_ok (call := call)
  case slice => exact oSlice_ok (call := call)
  case fieldAddr => exact oFa_ok (call := call)
  case indexAddr => exact oIa_ok (call := call)
  case index => exact oIx_ok (call := call)
  case sliceToArrayPointer => exact oS2_ok (call := call)
  case field => exact oFd_ok (call := call)
  case typeAssert => exact oTa_ok (call := call)
  case insert => exact oIns_ok (call := call)
  case makeMap => exact oMkM_ok (call := call)
  case lookup => exact oLk_ok (call := call)
  case mapUpdate => exact oMu_ok (call := call)
  case extract => exact oExt_ok (call := call)
  case call => exact oCall_ok hc
  all_goals exact fun h => by cases h
end
end Go.Cr
namespace Go.Cr
open Go.Sl
section
variable {C : Ctx} {ty : TypeId} {E : Env} {ρ : Ren} {s s' s1 : St} {v : SV} {V : Value} {F : List HProp} {e e' : En} {w0 w : World}
def bIs (w : Bool) (v : SV) : Option Bool := match v with | .bool b => some (b == w) | .und => some false | _ => none
def dstOf (ops : List Oper) (j : Nat) : Option Nat := match ops[j]? with | some o => o.dst | none => none
noncomputable def gWant (ops : List Oper) (e : En) (g : Nat × Bool) : Option Bool := Option.rec none (fun d => Option.rec none (bIs g.2) (e.get d)) (dstOf ops g.1)
noncomputable def wanted (ops : List Oper) (e : En) (o : Oper) : Option Bool := Option.rec (some true) (gWant ops e) o.guard
theorem wanted_ok {ops : List Oper} {o : Oper} {b : Bool} {a : Act} (h : wanted ops e o = some b) (hE : Fits ρ e E) (ha : Agr C E a) : Region.wanted o (yielded ops.toArray a.tmps) = b := by
  unfold wanted at h
  unfold Region.wanted
  cases hg : o.guard with
  | none => rw [hg] at h; cases h; rfl
  | some g =>
    rw [hg] at h
    obtain ⟨j, want⟩ := g
    have h : gWant ops e (j, want) = some b := h
    unfold gWant at h
    cases hd : dstOf ops j with
    | none => rw [hd] at h; cases h
    | some d =>
      rw [hd] at h
      have h : Option.rec (motive := fun _ => Option Bool) none (bIs want) (e.get d) = some b := h
      cases hv : e.get d with
      | none => rw [hv] at h; cases h
      | some v =>
        rw [hv] at h
        have h : bIs want v = some b := h
        obtain ⟨V, h1, h2⟩ := hE d v hv
        have h3 := ha.get d V h1
        unfold dstOf at hd
        have hy : (yielded ops.toArray a.tmps j) = (match V with | .bool b => some b | _ => none) := by
          unfold yielded
          cases ho : ops[j]? with
          | none => rw [ho] at hd; cases hd
          | some oj =>
            rw [ho] at hd
            have hd : oj.dst = some d := hd
            simp only [List.getElem?_toArray, ho, Option.bind_some, hd, h3]
            cases V <;> rfl
        show (yielded ops.toArray a.tmps j == some want) = b
        rw [hy]
        unfold bIs at h
        split at h
        · cases h; cases h2; simp
        · cases h; cases h2; simp [undef]
        · cases h
noncomputable def put (o : Oper) (v : SV) (e : En) : En := Option.rec e (fun d => e.set d (some v)) o.dst
noncomputable def bindR (r : R1) (k : SV → St → RE) : RE := R1.rec .no k r
theorem bindR_ok {r : R1} {k : SV → St → RE} {x : Ex} (h : bindR r k = .ok x e s') : ∃ v s1, r = .ok v s1 ∧ k v s1 = .ok x e s' := by
  cases r with
  | no => cases h
  | ok v s1 => exact ⟨v, s1, rfl, h⟩
def dstB (n : Nat) (o : Oper) : Bool := match o.dst with | some d => Nat.blt d n | none => true
def SS (C : Ctx) (ρ0 : Ren) (F : List HProp) (e : En) (s : St) (a : Act) (w : World) : Prop := ∃ ρ E, Ext ρ0 ρ ∧ Fits ρ e E ∧ Fr ρ s.nx ∧ Agr C E a ∧ Inv C.w0 (denH ρ s.h ++ F) w
theorem agr_put {o : Oper} {a : Act} (hd : dstB C.n o = true) (hE : Fits ρ e E) (ha : Agr C E a) (hv : den ρ v = some V) : ∃ E', Fits ρ (put o v e) E' ∧ Agr C E' (a.put o.dst V) := by
  unfold dstB at hd
  unfold put
  cases ho : o.dst with
  | none => exact ⟨E, hE, ha⟩
  | some d =>
    rw [ho] at hd
    exact ⟨_, hE.put hv, ha.put (blt_lt hd) V⟩
noncomputable def stepO (P : Program) (call : Cl) (all : List Oper) (o : Oper) (e : En) (s : St) (k : En → St → RE) : RE :=
  Option.rec .no (fun w => Bool.rec (k (put o .und e) s) (bindR (op1 o.op P call e s) fun v s => k (put o v e) s) w) (wanted all e o)
theorem stepO_ok {call : Cl} {all : List Oper} {o : Oper} {k : En → St → RE} {x : Ex} (h : stepO C.P call all o e s k = .ok x e' s') : (wanted all e o = some false ∧ k (put o .und e) s = .ok x e' s') ∨ (wanted all e o = some true ∧ ∃ v s1, op1 o.op C.P call e s = .ok v s1 ∧ k (put o v e) s1 = .ok x e' s') := by
  unfold stepO at h
  cases hw : wanted all e o with
  | none => rw [hw] at h; cases h
  | some b =>
    rw [hw] at h
    cases b with
    | false => exact .inl ⟨rfl, h⟩
    | true =>
      obtain ⟨v, s1, h1, h2⟩ := bindR_ok (k := fun v s => k (put o v e) s) h
      exact .inr ⟨rfl, v, s1, h1, h2⟩
noncomputable def opsR (P : Program) (call : Cl) (all l : List Oper) : En → St → RE := List.rec (motive := fun _ => En → St → RE) (fun e s => .ok .normal e s) (fun o _ ih e s => stepO P call all o e s ih) l
theorem opsR_ok {call : Cl} (hc : SoundC C.P call) {all : List Oper} {ρ0 : Ren} : ∀ {l : List Oper} {e : En} {s : St} {x : Ex}, opsR C.P call all l e s = .ok x e' s' → l.all (dstB C.n) = true → ∀ {Q : Exit → Act → World → Prop} {a : Act} {w : World}, SS C ρ0 F e s a w →
    (∀ a' w', x = .normal → SS C ρ0 F e' s' a' w' → Q .normal a' w') → wpList C.P all.toArray Q l a w
  | [], e, s, x, h, hl, Q, a, w, hs, hQ => by cases h; exact wpList_nil (hQ a w rfl hs)
  | o :: l, e, s, x, h, hl, Q, a, w, hs, hQ => by
    rw [List.all_cons, Bool.and_eq_true] at hl
    obtain ⟨ρ, E, k1, k2, k3, k4, k5⟩ := hs
    unfold wpList
    rcases stepO_ok (k := opsR C.P call all l) h with ⟨h1, h2⟩ | ⟨h1, v, s1, h2, h3⟩
    · rw [wanted_ok h1 k2 k4]
      simp only [Bool.false_eq_true, if_false]
      obtain ⟨E', j1, j2⟩ := agr_put (v := .und) (V := undef) hl.1 k2 k4 rfl
      exact opsR_ok hc h2 hl.2 ⟨ρ, E', k1, j1, k3, j2, k5⟩ hQ
    · rw [wanted_ok h1 k2 k4]
      simp only [if_true]
      refine .inl ?_
      obtain ⟨dst, op, ty, pos, aft, g⟩ := o
      refine op1_ok hc h2 k2 k3 dst pos aft g a w _ Q k4 k5 ?_
      rintro V L' w' ⟨σ, m1, m2, m3, m4⟩ hi'
      obtain ⟨E', j1, j2⟩ := agr_put (o := ⟨dst, op, ty, pos, aft, g⟩) hl.1 (k2.ext m1) k4 m3
      exact opsR_ok hc h3 hl.2 ⟨σ, E', k1.trans m1, j1, m2, j2, m4 _ _ hi'⟩ hQ
end
end Go.Cr

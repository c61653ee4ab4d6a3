/- Walks of functions that the law reaches, and what they lean on; no conditions. -/
import Derived.Test.YtookicfejdbddaaGreatM22
import Derived.Test.YtookicfejdbddaaGreatUpSp
set_option linter.unusedVariables false
set_option linter.unusedSimpArgs false
set_option linter.unnecessarySimpa false
set_option maxRecDepth 100000
namespace Go.Proofs.YtookicfejdbddaaGreat
open Go.Sl Go.Cr
section
variable {C : Ctx} {E : Env} {L : List HProp} {ty : TypeId}
def ifaceB (P : Program) (t : TypeId) : Bool := match P.underlying t with | some (.interface _) => true | _ => false
theorem run_equal_if {t T : TypeId} {is : Array (String × TypeId)} {u : Value} (ht : C.P.underlying t = some (.interface is)) (d : Nat) (w : World) : (Op.equalIn (d + 1) t (.iface T u) .nilIface).run C.P w = .ok false w := by
  simp [Op.equalIn, run_underlying ht]
theorem v_eqnilI {x y : Operand} {t t' T : TypeId} {u : Value} (ht : ifaceB C.P t = true) (hx : evalE E x = some (.iface T u)) (hy : evalE E y = some .nilIface) : OpV C (.binOp .eql t x y t') ty E L (.bool false) L :=
  pureV fun d pos aft g a w ha => by
    unfold ifaceB at ht
    split at ht <;> try simp at ht
    rename_i is hds
    rw [run_bin d pos aft g (ha.eval hx) (ha.eval hy) (by simp [eqGuard])]
    have h := run_equal_if hds (T := T) (u := u) 9999 w
    simp only [binOp, Op.equal, Op.maxDepth, Sem.run_bind, h, Result.andThen_ok, Sem.run_pure]
theorem v_tassY {x : Operand} {xT T : TypeId} {u : Value} (hc : concB C.P T = true) (hx : evalE E x = some (.iface T u)) : OpV C (.typeAssert x xT T true) ty E L (.tuple #[u, .bool true]) L :=
  pureV fun d pos aft g a w ha => by
    unfold concB at hc
    split at hc <;> try simp at hc
    rename_i ds hne hds
    simp only [execOp, ha.eval hx, Instr.typeAssert, Sem.run_bind, run_underlying hds, Result.andThen_ok]
    cases ds <;> first | (exact absurd rfl (hne _)) | simp [Sem.run_pure]
end
theorem wpS_walk {C : Ctx} {c : Code} {Q : Exit → Act → List Frame → World → Prop} {a : Act} {cs : List Frame} {w : World} {E : Env} {L : List HProp} (ha : Agr C E a) (hi : Inv C.w0 L w) (h : Wp C c (qr C fun e a w => Q e a cs w) E L) : c.wpS C.P Q a cs w := wpS_of_wp (wr_of h a w ha hi)
theorem agr_486 {P : Program} {w0 : World} {X : List PanicEntry → List HProp → Prop} (x y : Value) : Agr ⟨P, w0, 11, [], X⟩ [(4, y), (0, x)] { tmps := #[x] ++ (Array.replicate 10 undef).setIfInBounds 3 y, defers := [] } := by
  refine ⟨rfl, by simp, fun d v hd => ?_⟩
  rw [Env.get_cons] at hd
  split at hd
  · rename_i h; subst h; cases hd; simp
  · rw [Env.get_cons] at hd
    split at hd
    · rename_i h; subst h; cases hd; simp
    · simp [Env.get] at hd
theorem Y.if20 : ifaceB Tryz.prog 20 = true := by kernel_rfl
theorem Y.c29 : concB Tryz.prog 29 = true := by kernel_rfl
theorem Y.z29 : zeroB Tryz.prog 29 = some [.int .i64 0] := by kernel_rfl
theorem Y.sc29 : scalarB Tryz.prog 29 = true := by kernel_rfl
theorem Y.b486 : bodyB Tryz.prog 486 = true := by kernel_rfl
theorem catch_pan {w0 : World} {L : List HProp} (b : Nat) (x e : Int) (older : List PanicEntry) (w : World) (hi : Inv w0 (Cel b 29 [.int .i64 x] :: L) w) :
    CallsD Tryz.prog 486 #[.pointer (some ⟨b, 0, none⟩)] (.panicking ({ v := .iface 29 (.int .i64 e), recovered := false } :: older)) w fun e' u' w' =>
      e' = .returned (.tuple #[]) ∧ u' = .panicking ({ v := .iface 29 (.int .i64 e), recovered := true } :: older) ∧ Inv w0 (Cel b 29 [.int .i64 e] :: L) w' := by
  refine callsD_of_wpS Tryz.func486 rfl fun c₀ cs hu => ?_
  apply wpS_seq
  apply wpS_region
  simp [wpOpsS, go_sem, recoverD, hu, Tryz.ntmps486, Exit.thenS]
  refine wpS_walk (C := ⟨Tryz.prog, w0, 11, [], fun _ _ => True⟩) (E := [(4, .iface 29 (.int .i64 e)), (0, .pointer (some ⟨b, 0, none⟩))]) (agr_486 _ _) hi ?_
  refine w_block ?_
  refine w_seq (w_region ?_)
  refine o_val (v_eqnilI Y.if20 rfl rfl) rfl ?_
  refine o_nil ?_
  refine thn_n ?_
  refine w_condF rfl ?_
  refine w_seq (w_region ?_)
  refine o_val (v_tassY Y.c29 rfl) rfl ?_
  refine o_val (v_extract rfl rfl) rfl ?_
  refine o_val (v_extract rfl rfl) rfl ?_
  refine o_nil ?_
  refine thn_n ?_
  refine w_condT rfl ?_
  refine w_seq (w_region ?_)
  refine o_val (v_assign rfl) rfl ?_
  refine o_nil ?_
  refine thn_n ?_
  refine w_region ?_
  refine o_val (v_move rfl) rfl ?_
  refine o_eff (v_store Y.sc29 rfl rfl rfl .head (by exact Nat.le_of_ble_eq_true rfl) rfl) ?_
  refine o_nil ?_
  refine blk_n ?_
  intro a w ha hi
  exact ⟨ha.defers, _, rfl, .tuple #[], by simp [results, Tryz.results486], rfl, rfl, hi⟩
theorem tried_end {C : Ctx} {a : Act} {E : Env} {L : List HProp} {w : World} {b : Nat} {x : Int} (hP : C.P = Tryz.prog) (ha : Agr C E a) (ht : E.get 2 = some (.pointer (some ⟨b, 0, none⟩))) (hi : Inv C.w0 (Cel b 29 [.int .i64 x] :: L) w) :
    (results Tryz.f482 a.tmps).run Tryz.prog w = .ok (.int .i64 x) w := by
  have h1 := ha.get _ _ ht
  have h2 := hi.cel_cell 0
  simp only [List.getElem?_cons_zero] at h2
  simp [results, Tryz.results482, h1, go_sem, h2]
theorem rems_self : ∀ (A M : List HProp), Rems (A ++ M) A M
  | [], M => .nil
  | a :: A, M => .cons .head (rems_self A M)
theorem tried_no {f : FuncId} {fs : List Value} {Pre : List HProp} {e : Int} {R : List HProp → Prop} (hS : Ctr Tryz.prog f (fs ++ [] ++ []) Pre (Pan fun ch G => ch = pan1 29 (.int .i64 e) ∧ R G)) (hb : bodyB Tryz.prog f = true) :
    Ctr Tryz.prog 482 [.func (.func f) fs.toArray #[]] Pre (Ret fun v G => v = .int .i64 e ∧ R G) := by
  refine spec_ofD [(0, _)] Tryz.func482 rfl Tryz.ntmps482 rfl rfl ?_
  intro w0 F
  refine wr_seq (w_region ?_)
  refine o_alloc Y.z29 rfl ?_
  intro b2
  refine o_nil ?_
  refine thn_n ?_
  refine wr_defer (caps := [.tmp 2]) rfl rfl ?_
  refine wr_seq ?_
  refine w_region ?_
  refine o_val (v_move rfl) rfl ?_
  refine o_perm (L' := Pre ++ (Cel b2 29 [.int .i64 0] :: F)) List.perm_middle.symm ?_
  refine o_callFE (fs := fs) (vs := []) (cs := []) hS hb rfl rfl (rems_self _ _) ?_
  rintro ch G ⟨rfl, hR⟩
  refine thn_p ?_
  intro a w ha hi
  show Leaves _ _ _ _ a.defers _ _
  rw [ha.defers]
  have hi2 : Inv w0 (Cel b2 29 [.int .i64 0] :: (G ++ F)) w := hi.perm List.perm_middle
  refine leaves_cons (f := 486) (args := #[.pointer (some ⟨b2, 0, none⟩)]) (by simp) ?_ ?_
  · simp [invoke, run_callFunc Y.b486]
  refine (catch_pan b2 0 e [] w hi2).mono ?_
  rintro e' u' w' ⟨rfl, rfl, hi3⟩
  exact ⟨.int .i64 e, tried_end rfl ha rfl hi3, G, hi3.tail, _, rfl, rfl, hR⟩
noncomputable def tryV (s : Cr.St) (v : SV) : R1 := match v with | .ifc 29 (.int .i64 e) => .ok (.int .i64 e) s | _ => .no
noncomputable def spY1 (call : Cl) (n : Nat) (vs : List SV) (s : Cr.St) : R1 := match vs with | [.bnd f fs] => wb (bodyB Tryz.prog f) (contP (callP Tryz.prog call n f fs s) fun v s1 => tryV s1 v) | _ => .no
noncomputable def spY (call : Cl) (n : Nat) : Cl := fun g vs s => Bool.rec .no (spY1 call n vs s) (Nat.beq g 482)
theorem spY_ok {call : Cl} (hc : SoundC Tryz.prog call) (n : Nat) : SoundC Tryz.prog (spY call n) := by
  intro g vs s s' v h ρ Vs hf hv
  unfold spY at h
  cases hg : Nat.beq g 482 with
  | false => rw [hg] at h; cases h
  | true =>
    rw [hg] at h
    obtain rfl := Nat.eq_of_beq_eq_true hg
    have h : spY1 call n vs s = R1.ok v s' := h
    unfold spY1 at h
    split at h <;> try (cases h; done)
    rename_i f fs _
    obtain ⟨hb, h⟩ := wb_ok h
    cases hr : callP Tryz.prog call n f fs s with
    | no => rw [hr] at h; cases h
    | ok u s1 =>
      rw [hr] at h
      have h : tryV s1 u = .ok v s' := h
      unfold tryV at h
      split at h <;> try (cases h; done)
      rename_i e _
      cases h
      obtain ⟨V1, us, rfl, h1, h2⟩ := dens_cons hv
      cases h2
      simp only [Cr.den] at h1
      cases hl : dens ρ fs with
      | none => rw [hl] at h1; cases h1
      | some ws =>
        rw [hl] at h1
        cases h1
        have hp := callP_ok hc n hr hf hl
        have hq : Ctr Tryz.prog f (ws ++ [] ++ []) (denH ρ s.h) (Pan fun ch G => ch = pan1 29 (.int .i64 e) ∧ ∃ σ, Ext ρ σ ∧ Fr σ s'.nx ∧ G = denH σ s'.h) := by
          rw [List.append_nil, List.append_nil]
          refine hp.mono ?_
          rintro e' G ⟨ch, rfl, σ, V, k1, k2, k3, rfl, rfl⟩
          simp only [Cr.den] at k3
          cases k3
          exact ⟨_, rfl, rfl, σ, k1, k2, rfl⟩
        refine (tried_no hq hb).mono ?_
        rintro e' G ⟨v, rfl, rfl, σ, k1, k2, rfl⟩
        exact ⟨_, rfl, σ, k1, k2, rfl, rfl⟩
end Go.Proofs.YtookicfejdbddaaGreat

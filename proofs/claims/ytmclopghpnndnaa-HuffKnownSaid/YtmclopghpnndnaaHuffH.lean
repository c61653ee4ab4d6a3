/-
  Steps of the proof: walks of functions that the statement reaches; printed by a program of ours.
-/
import Derived.Test.YtmclopghpnndnaaHuffG
import Derived.Test.YtmclopghpnndnaaM29
namespace Go.Proofs.Ytmclopghpnndnaa
open Go.Sl 
set_option linter.unusedVariables false
set_option linter.unusedSimpArgs false


theorem rems_self : ∀ (A M : List HProp), Rems (A ++ M) A M
  | [], M => .nil
  | a :: A, M => .cons .head (rems_self A M)
theorem catch_pan (b : Nat) (x : Bool) (t : TypeId) (pv : Value) (older : List PanicEntry) (w : World) (hc : w.cell? ⟨b, 0, none⟩ = some (.bool x)) (hz : w.frozen? ⟨b, 0, none⟩ = false) :
    CallsD Try.prog 33 #[.pointer (some ⟨b, 0, none⟩)] (.panicking ({ v := .iface t pv, recovered := false } :: older)) w fun e u' w' =>
      e = .returned (.tuple #[]) ∧ u' = .panicking ({ v := .iface t pv, recovered := true } :: older) ∧ w' = w.setCell ⟨b, 0, none⟩ (.bool false) := by
  refine callsD_of_wpS Try.func33 rfl fun c₀ cs hu => ?_
  apply wpS_seq
  apply wpS_region
  simp [wpOpsS, go_sem, recoverD, hu, Try.ntmps33, Exit.thenS]
  refine wpS_cond (t := true) (by simp [Act.eval, Array.replicate]) ?_
  simp only [if_true]
  apply wpS_region
  simp [wpOpsS, go_sem, hc, hz, bodyPostS, results, Try.results33]
theorem catch_idle (p : Addr) (w : World) :
    CallsD Try.prog 33 #[.pointer (some p)] .returning w fun e u' w' => e = .returned (.tuple #[]) ∧ u' = .returning ∧ w' = w := by
  refine callsD_of_wpS Try.func33 rfl fun c₀ cs hu => ?_
  apply wpS_seq
  apply wpS_region
  simp [wpOpsS, go_sem, recoverD, hu, Try.ntmps33, Exit.thenS]
  refine wpS_cond (t := false) (by simp [Act.eval, Array.replicate]) ?_
  simp only [Bool.false_eq_true, if_false]
  refine wpS_of_wp (wp_skip ?_)
  cases c₀
  simp_all [bodyPostS, results, Try.results33]
theorem guard_end {C : Ctx} {a : Act} {E : Env} {L : List HProp} {w : World} {b : Nat} {x : Bool} (hP : C.P = Try.prog) (ha : Agr C E a) (ht : E.get 2 = some (.pointer (some ⟨b, 0, none⟩))) (hi : Inv C.w0 (Cel b 4 [.bool x] :: L) w) :
    (results Try.f15 a.tmps).run Try.prog w = .ok (.bool x) w := by
  have h1 := ha.get _ _ ht
  have h2 := hi.cel_cell 0
  simp only [List.getElem?_cons_zero] at h2
  simp [results, Try.results15, h1, go_sem, h2]
theorem guard_ok {f : FuncId} {cs : List Value} {Pre : List HProp} {R : List HProp → Prop} (hS : Ctr Try.prog f cs Pre (Ret fun _ G => R G)) (hb : bodyB Try.prog f = true) :
    Ctr Try.prog 15 [.func (.func f) #[] cs.toArray] Pre (Ret fun v G => v = .bool true ∧ R G) := by
  refine spec_ofD [(0, _)] Try.func15 rfl Try.ntmps15 rfl rfl ?_
  intro w0 F
  refine wr_seq (w_region ?_)
  refine o_alloc V.z4 rfl ?_
  intro b2
  refine o_nil ?_
  refine thn_n ?_
  refine wr_seq ?_
  refine w_seq ?_
  refine w_region ?_
  refine o_val (v_move rfl) rfl ?_
  refine o_val (v_eqnilF V.fn1 rfl rfl) rfl ?_
  refine o_nil ?_
  refine thn_n ?_
  refine w_condF rfl ?_
  refine w_skip ?_
  refine thn_n ?_
  refine wr_defer (caps := [.tmp 2]) rfl rfl ?_
  refine wr_seq ?_
  refine w_region ?_
  refine o_val (v_move rfl) rfl ?_
  refine o_perm (L' := Pre ++ (Cel b2 4 [.bool false] :: F)) List.perm_middle.symm ?_
  refine o_callF (fs := []) (vs := []) (cs := cs) hS hb rfl rfl (rems_self _ _) rfl ?_
  intro v G hR
  refine o_nil ?_
  refine thn_n ?_
  refine wr_seq ?_
  refine w_region ?_
  refine o_perm (L' := Cel b2 4 [.bool false] :: (G ++ F)) List.perm_middle ?_
  refine o_eff (v_store V.s4 rfl rfl rfl .head (by exact Nat.le_of_ble_eq_true rfl) rfl) ?_
  refine o_nil ?_
  refine thn_n ?_
  refine wr_of (w_ret ?_)
  intro a w ha hi
  show Leaves _ _ _ _ a.defers _ _
  rw [ha.defers]
  refine leaves_cons (f := 33) (args := #[.pointer (some ⟨b2, 0, none⟩)]) (by simp) ?_ ?_
  · simp [invoke, run_callFunc V.b33]
  refine (catch_idle ⟨b2, 0, none⟩ w).mono ?_
  rintro e u' w' ⟨rfl, rfl, rfl⟩
  exact ⟨.bool true, guard_end rfl ha rfl hi, G, hi.tail, _, rfl, rfl, hR⟩
theorem guard_no {f : FuncId} {cs : List Value} {Pre : List HProp} {R : List HProp → Prop} (hS : Ctr Try.prog f cs Pre (Pan fun ch G => (∃ t u, ch = pan1 t u) ∧ R G)) (hb : bodyB Try.prog f = true) :
    Ctr Try.prog 15 [.func (.func f) #[] cs.toArray] Pre (Ret fun v G => v = .bool false ∧ R G) := by
  refine spec_ofD [(0, _)] Try.func15 rfl Try.ntmps15 rfl rfl ?_
  intro w0 F
  refine wr_seq (w_region ?_)
  refine o_alloc V.z4 rfl ?_
  intro b2
  refine o_nil ?_
  refine thn_n ?_
  refine wr_seq ?_
  refine w_seq ?_
  refine w_region ?_
  refine o_val (v_move rfl) rfl ?_
  refine o_val (v_eqnilF V.fn1 rfl rfl) rfl ?_
  refine o_nil ?_
  refine thn_n ?_
  refine w_condF rfl ?_
  refine w_skip ?_
  refine thn_n ?_
  refine wr_defer (caps := [.tmp 2]) rfl rfl ?_
  refine wr_seq ?_
  refine w_region ?_
  refine o_val (v_move rfl) rfl ?_
  refine o_perm (L' := Pre ++ (Cel b2 4 [.bool false] :: F)) List.perm_middle.symm ?_
  refine o_callFE (fs := []) (vs := []) (cs := cs) hS hb rfl rfl (rems_self _ _) ?_
  rintro ch G ⟨⟨t, u, rfl⟩, hR⟩
  refine thn_p ?_
  intro a w ha hi
  show Leaves _ _ _ _ a.defers _ _
  rw [ha.defers]
  have hi2 : Inv w0 (Cel b2 4 [.bool false] :: (G ++ F)) w := hi.perm List.perm_middle
  refine leaves_cons (f := 33) (args := #[.pointer (some ⟨b2, 0, none⟩)]) (by simp) ?_ ?_
  · simp [invoke, run_callFunc V.b33]
  refine (catch_pan b2 false t u [] w (hi2.cel_cell 0) (hi2.cel_frozen 0)).mono ?_
  rintro e u' w' ⟨rfl, rfl, rfl⟩
  have hi3 := hi2.setCell 0 (.bool false)
  exact ⟨.bool false, guard_end rfl ha rfl hi3, G, hi3.tail, _, rfl, rfl, hR⟩

end Go.Proofs.Ytmclopghpnndnaa

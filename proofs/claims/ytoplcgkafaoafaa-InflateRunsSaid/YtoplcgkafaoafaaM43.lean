/- Steps of the proof: the walks of the functions that the statement reaches; printed by a program of ours. -/
import Derived.Test.YtoplcgkafaoafaaInfT
import Derived.Test.YtoplcgkafaoafaaM38
import Derived.Test.YtoplcgkafaoafaaM37
/-
  Steps of the proof: walks of functions that the statement reaches; printed by a program of ours.
-/
namespace Go.Proofs.Ytoplcgkafaoafaa
open Go.Sl 
set_option linter.unusedVariables false
set_option linter.unusedSimpArgs false


theorem V.if20 : ifaceB Try.prog 20 = true := by kernel_rfl
theorem V.zv81 : (Try.prog.info? 81).bind (·.zero) = some (.agg #[]) := by kernel_rfl
theorem V.zv82 : (Try.prog.info? 82).bind (·.zero) = some (.agg #[]) := by kernel_rfl
theorem rems_self : ∀ (A M : List HProp), Rems (A ++ M) A M
  | [], M => .nil
  | a :: A, M => .cons .head (rems_self A M)
theorem catch_pan {w0 : World} {L : List HProp} (b : Nat) (x e : Int) (t : TypeId) (pv : Value) (hp : PE e (pan1 t pv)) (older : List PanicEntry) (w : World) (hi : Inv w0 (Cel b 24 [.int .i64 x] :: L) w) :
    CallsD Try.prog 40 #[.pointer (some ⟨b, 0, none⟩)] (.panicking ({ v := .iface t pv, recovered := false } :: older)) w fun e' u' w' =>
      e' = .returned (.tuple #[]) ∧ u' = .panicking ({ v := .iface t pv, recovered := true } :: older) ∧ Inv w0 (Cel b 24 [.int .i64 e] :: L) w' := by
  refine callsD_of_wpS Try.func40 rfl fun c₀ cs hu => ?_
  apply wpS_seq
  apply wpS_region
  simp [wpOpsS, go_sem, recoverD, hu, Try.ntmps40, Exit.thenS]
  refine wpS_walk (C := ⟨Try.prog, w0, 19, [], fun _ _ => True⟩) (E := [(6, .iface t pv), (0, .pointer (some ⟨b, 0, none⟩))]) (agr_40 _ _) hi ?_
  rcases hp with ⟨h, rfl⟩ | ⟨h, rfl⟩ | ⟨h, _⟩
  · simp only [pan1, List.cons.injEq, PanicEntry.mk.injEq, Value.iface.injEq, and_true] at h
    obtain ⟨rfl, rfl⟩ := h
    refine w_block ?_
    refine w_seq (w_region ?_)
    refine o_val (v_eqnilI V.if20 rfl rfl) rfl ?_
    refine o_nil ?_
    refine thn_n ?_
    refine w_condF rfl ?_
    refine w_seq (w_region ?_)
    refine o_val (v_tassY V.c81 rfl) rfl ?_
    refine o_val (v_extract rfl rfl) rfl ?_
    refine o_val (v_extract rfl rfl) rfl ?_
    refine o_nil ?_
    refine thn_n ?_
    refine w_condT rfl ?_
    refine w_seq (w_region ?_)
    refine o_alloc V.z81 rfl ?_
    intro bz
    refine o_eff (v_storeAgg V.a81 rfl rfl (us := []) rfl rfl .head (by exact Nat.le_of_ble_eq_true rfl) rfl) ?_
    refine o_nil ?_
    refine thn_n ?_
    refine w_region ?_
    refine o_eff (v_store V.s24 rfl rfl rfl (.tail .head) (by exact Nat.le_of_ble_eq_true rfl) rfl) ?_
    refine o_nil ?_
    refine blk_n ?_
    intro a w ha hi
    exact ⟨ha.defers, _, rfl, .tuple #[], by simp [results, Try.results40], rfl, rfl, hi.tail⟩
  · simp only [pan1, List.cons.injEq, PanicEntry.mk.injEq, Value.iface.injEq, and_true] at h
    obtain ⟨rfl, rfl⟩ := h
    refine w_block ?_
    refine w_seq (w_region ?_)
    refine o_val (v_eqnilI V.if20 rfl rfl) rfl ?_
    refine o_nil ?_
    refine thn_n ?_
    refine w_condF rfl ?_
    refine w_seq (w_region ?_)
    refine o_val (v_tassN V.c81 V.zv81 (by decide) rfl) rfl ?_
    refine o_val (v_extract rfl rfl) rfl ?_
    refine o_val (v_extract rfl rfl) rfl ?_
    refine o_nil ?_
    refine thn_n ?_
    refine w_condF rfl ?_
    refine w_seq (w_region ?_)
    refine o_val (v_tassY V.c82 rfl) rfl ?_
    refine o_val (v_extract rfl rfl) rfl ?_
    refine o_val (v_extract rfl rfl) rfl ?_
    refine o_nil ?_
    refine thn_n ?_
    refine w_condT rfl ?_
    refine w_seq (w_region ?_)
    refine o_alloc V.z82 rfl ?_
    intro bz
    refine o_eff (v_storeAgg V.a82 rfl rfl (us := []) rfl rfl .head (by exact Nat.le_of_ble_eq_true rfl) rfl) ?_
    refine o_nil ?_
    refine thn_n ?_
    refine w_region ?_
    refine o_eff (v_store V.s24 rfl rfl rfl (.tail .head) (by exact Nat.le_of_ble_eq_true rfl) rfl) ?_
    refine o_nil ?_
    refine blk_n ?_
    intro a w ha hi
    exact ⟨ha.defers, _, rfl, .tuple #[], by simp [results, Try.results40], rfl, rfl, hi.tail⟩
  · simp only [pan1, List.cons.injEq, PanicEntry.mk.injEq, Value.iface.injEq, and_true] at h
    obtain ⟨rfl, rfl⟩ := h
    refine w_block ?_
    refine w_seq (w_region ?_)
    refine o_val (v_eqnilI V.if20 rfl rfl) rfl ?_
    refine o_nil ?_
    refine thn_n ?_
    refine w_condF rfl ?_
    refine w_seq (w_region ?_)
    refine o_val (v_tassN V.c81 V.zv81 (by decide) rfl) rfl ?_
    refine o_val (v_extract rfl rfl) rfl ?_
    refine o_val (v_extract rfl rfl) rfl ?_
    refine o_nil ?_
    refine thn_n ?_
    refine w_condF rfl ?_
    refine w_seq (w_region ?_)
    refine o_val (v_tassN V.c82 V.zv82 (by decide) rfl) rfl ?_
    refine o_val (v_extract rfl rfl) rfl ?_
    refine o_val (v_extract rfl rfl) rfl ?_
    refine o_nil ?_
    refine thn_n ?_
    refine w_condF rfl ?_
    refine w_seq (w_region ?_)
    refine o_val (v_tassY V.c24 rfl) rfl ?_
    refine o_val (v_extract rfl rfl) rfl ?_
    refine o_val (v_extract rfl rfl) rfl ?_
    refine o_nil ?_
    refine thn_n ?_
    refine w_condT rfl ?_
    refine w_seq (w_region ?_)
    refine o_val (v_assign rfl) rfl ?_
    refine o_nil ?_
    refine thn_n ?_
    refine w_region ?_
    refine o_val (v_move rfl) rfl ?_
    refine o_eff (v_store V.s24 rfl rfl rfl .head (by exact Nat.le_of_ble_eq_true rfl) rfl) ?_
    refine o_nil ?_
    refine blk_n ?_
    intro a w ha hi
    exact ⟨ha.defers, _, rfl, .tuple #[], by simp [results, Try.results40], rfl, rfl, hi⟩
theorem catch_idle {w0 : World} {L : List HProp} (b : Nat) (w : World) (hi : Inv w0 L w) :
    CallsD Try.prog 40 #[.pointer (some ⟨b, 0, none⟩)] .returning w fun e u' w' => e = .returned (.tuple #[]) ∧ u' = .returning ∧ Inv w0 L w' := by
  refine callsD_of_wpS Try.func40 rfl fun c₀ cs hu => ?_
  apply wpS_seq
  apply wpS_region
  simp [wpOpsS, go_sem, recoverD, hu, Try.ntmps40, Exit.thenS]
  refine wpS_walk (C := ⟨Try.prog, w0, 19, [], fun _ _ => True⟩) (E := [(6, .nilIface), (0, .pointer (some ⟨b, 0, none⟩))]) (agr_40 _ _) hi ?_
  refine w_block ?_
  refine w_seq (w_region ?_)
  refine o_val (v_eqnilJ V.if20 rfl) rfl ?_
  refine o_nil ?_
  refine thn_n ?_
  refine w_condT rfl ?_
  refine w_region ?_
  refine o_val (v_assign rfl) rfl ?_
  refine o_nil ?_
  refine blk_n ?_
  intro a w ha hi
  cases c₀
  exact ⟨ha.defers, _, by simp_all, .tuple #[], by simp [results, Try.results40], rfl, rfl, hi⟩
theorem tried_end {C : Ctx} {a : Act} {E : Env} {L : List HProp} {w : World} {b : Nat} {x : Int} (hP : C.P = Try.prog) (ha : Agr C E a) (ht : E.get 2 = some (.pointer (some ⟨b, 0, none⟩))) (hi : Inv C.w0 (Cel b 24 [.int .i64 x] :: L) w) :
    (results Try.f29 a.tmps).run Try.prog w = .ok (.int .i64 x) w := by
  have h1 := ha.get _ _ ht
  have h2 := hi.cel_cell 0
  simp only [List.getElem?_cons_zero] at h2
  simp [results, Try.results29, h1, go_sem, h2]
theorem tried_ok {f : FuncId} {cs : List Value} {Pre : List HProp} {R : List HProp → Prop} (hS : Ctr Try.prog f cs Pre (Ret fun _ G => R G)) (hb : bodyB Try.prog f = true) :
    Ctr Try.prog 29 [.func (.func f) #[] cs.toArray] Pre (Ret fun v G => v = .int .i64 0 ∧ R G) := by
  refine spec_ofD [(0, _)] Try.func29 rfl Try.ntmps29 rfl rfl ?_
  intro w0 F
  refine wr_seq (w_region ?_)
  refine o_alloc V.z24 rfl ?_
  intro b2
  refine o_nil ?_
  refine thn_n ?_
  refine wr_defer (caps := [.tmp 2]) rfl rfl ?_
  refine wr_seq ?_
  refine w_region ?_
  refine o_val (v_move rfl) rfl ?_
  refine o_perm (L' := Pre ++ (Cel b2 24 [.int .i64 0] :: F)) List.perm_middle.symm ?_
  refine o_callF (fs := []) (vs := []) (cs := cs) hS hb rfl rfl (rems_self _ _) rfl ?_
  intro v G hR
  refine o_nil ?_
  refine thn_n ?_
  refine wr_seq ?_
  refine w_region ?_
  refine o_perm (L' := Cel b2 24 [.int .i64 0] :: (G ++ F)) List.perm_middle ?_
  refine o_eff (v_store V.s24 rfl rfl rfl .head (by exact Nat.le_of_ble_eq_true rfl) rfl) ?_
  refine o_nil ?_
  refine thn_n ?_
  refine wr_of (w_ret ?_)
  intro a w ha hi
  show Leaves _ _ _ _ a.defers _ _
  rw [ha.defers]
  refine leaves_cons (f := 40) (args := #[.pointer (some ⟨b2, 0, none⟩)]) (by simp) ?_ ?_
  · simp [invoke, run_callFunc V.b40]
  refine (catch_idle b2 w hi).mono ?_
  rintro e u' w' ⟨rfl, rfl, hi⟩
  exact ⟨.int .i64 0, tried_end rfl ha rfl hi, G, hi.tail, _, rfl, rfl, hR⟩
theorem tried_no {f : FuncId} {cs : List Value} {Pre : List HProp} {e : Int} {R : List HProp → Prop} (hS : Ctr Try.prog f cs Pre (Pan fun ch G => PE e ch ∧ R G)) (hb : bodyB Try.prog f = true) :
    Ctr Try.prog 29 [.func (.func f) #[] cs.toArray] Pre (Ret fun v G => v = .int .i64 e ∧ R G) := by
  refine spec_ofD [(0, _)] Try.func29 rfl Try.ntmps29 rfl rfl ?_
  intro w0 F
  refine wr_seq (w_region ?_)
  refine o_alloc V.z24 rfl ?_
  intro b2
  refine o_nil ?_
  refine thn_n ?_
  refine wr_defer (caps := [.tmp 2]) rfl rfl ?_
  refine wr_seq ?_
  refine w_region ?_
  refine o_val (v_move rfl) rfl ?_
  refine o_perm (L' := Pre ++ (Cel b2 24 [.int .i64 0] :: F)) List.perm_middle.symm ?_
  refine o_callFE (fs := []) (vs := []) (cs := cs) hS hb rfl rfl (rems_self _ _) ?_
  rintro ch G ⟨hp, hR⟩
  refine thn_p ?_
  intro a w ha hi
  show Leaves _ _ _ _ a.defers _ _
  rw [ha.defers]
  have hi2 : Inv w0 (Cel b2 24 [.int .i64 0] :: (G ++ F)) w := hi.perm List.perm_middle
  refine leaves_cons (f := 40) (args := #[.pointer (some ⟨b2, 0, none⟩)]) (by simp) ?_ ?_
  · simp [invoke, run_callFunc V.b40]
  obtain ⟨t, u, rfl⟩ : ∃ t u, ch = pan1 t u := by
    rcases hp with ⟨h, _⟩ | ⟨h, _⟩ | ⟨h, _⟩ <;> exact ⟨_, _, h⟩
  refine (catch_pan b2 0 e t u hp [] w hi2).mono ?_
  rintro e' u' w' ⟨rfl, rfl, hi3⟩
  exact ⟨.int .i64 e, tried_end rfl ha rfl hi3, G, hi3.tail, _, rfl, rfl, hR⟩

end Go.Proofs.Ytoplcgkafaoafaa

/-
 Steps of the proof: walks of functions that the statement reaches; printed by a program of ours.
-/
namespace Go.Proofs.Ytoplcgkafaoafaa
open Go.Sl 
set_option linter.unusedVariables false
set_option linter.unusedSimpArgs false

attribute [local irreducible] HuffP.newE HuffP.tk HuffP.ord HuffP.cntL HuffP.words HuffP.mostL InfP.frs InfP.toldC InfP.toldN InfP.toldA InfP.hL InfP.hD InfP.hC InfP.lnGo InfP.told InfP.fixL InfP.codeE InfP.rep InfP.lenE InfP.awayE InfP.sym InfP.alg BitP.numL InfP.coded InfP.begin_ InfP.one InfP.put_


theorem mm_open {b bl : Nat} {sz mo : Int} {B : List Int} {s : InfP.St} {w0 : World} {h : Hp} (hh : MM b bl sz mo B s w0 h) : ∃ i : Pv, True ∧ sats w0 [MS b bl sz mo i.li i.di s, LW bl B s.at_ [] 0, CD i.li i.di s] h := hh
/-- A machine that is done with an error. -/
def MD (b bl : Nat) (sz mo e : Int) : HProp := fun w0 h => ∃ i : Vx, True ∧ sats w0 [Cel b 67 [.pointer (some ⟨bl, 0, none⟩), .int .i64 sz, .int .i64 mo, .slice none 0 0, .bool true, .int .i64 e, i.v6, i.v7, i.v8, i.v9, i.v10, i.v11, i.v12]] h
theorem md_close {b bl : Nat} {sz mo e : Int} {v6 v7 v8 v9 v10 v11 v12 : Value} {w0 : World} {h : Hp}
  (hh : sats w0 [Cel b 67 [.pointer (some ⟨bl, 0, none⟩), .int .i64 sz, .int .i64 mo, .slice none 0 0, .bool true, .int .i64 e, v6, v7, v8, v9, v10, v11, v12]] h) : MD b bl sz mo e w0 h := ⟨⟨.nilFunc, .nilFunc, .nilFunc, v6, v7, v8, v9, v10, v11, v12⟩, trivial, hh⟩
def MJ (b bl : Nat) (sz mo : Int) (B : List Int) : InfP.Jt → HProp
 | .ok s => MM b bl sz mo B s
 | .error e => MD b bl sz mo e


set_option maxHeartbeats 2000000 in
set_option maxRecDepth 100000 in
theorem c_step1 (bm bw bn b bl : Nat) (sz mo : Int) (w : Nat) (n : Int) (s0 : InfP.St) (o : Except Int InfP.St) (B : List Int) (hl : B.length < 500000000) (hB : BitP.Byt B) (hm : mo < 1000000000) (hw : w < 1000000000) (hok0 : InfP.Ok B mo s0) (hlp0 : InfP.Lp B mo w n s0 o) : Ctr Try.prog 30 [.pointer (some ⟨bm, 0, none⟩), .pointer (some ⟨bw, 0, none⟩), .pointer (some ⟨bn, 0, none⟩)] [Cel bm 31 [.pointer (some ⟨b, 0, none⟩)], Cel bw 3 [.int .i64 (w : Int)], Cel bn 3 [.int .i64 n], MM b bl sz mo B s0] (PostE o (fun s2 v G => v = .tuple #[] ∧ G = [Cel bm 31 [.pointer (some ⟨b, 0, none⟩)], Cel bw 3 [.int .i64 (w : Int)], Cel bn 3 [.int .i64 n], MM b bl sz mo B s2]) [Cel bm 31 [.pointer (some ⟨b, 0, none⟩)], Cel bw 3 [.int .i64 (w : Int)], Cel bn 3 [.int .i64 n], MX b bl sz mo]) := by
 refine spec_of [(0, _), (1, _), (2, _)] Try.func30 rfl Try.ntmps30 rfl rfl ?_
 intro w0 F
 refine w_block ?_
 refine w_loop1 (fun (s : InfP.St) => [(0, .pointer (some ⟨bm, 0, none⟩)), (1, .pointer (some ⟨bw, 0, none⟩)), (2, .pointer (some ⟨bn, 0, none⟩))]) (fun (s : InfP.St) => MM b bl sz mo B s :: Cel bm 31 [.pointer (some ⟨b, 0, none⟩)] :: Cel bw 3 [.int .i64 (w : Int)] :: Cel bn 3 [.int .i64 n] :: F) (fun (s : InfP.St) => InfP.Ok B mo s ∧ InfP.Lp B mo w n s o) (fun (s : InfP.St) => InfP.mu B s) (i1 (s0) ?_ (.cons rfl (.cons rfl (.cons rfl (.nil _)))) (sub (.cons (by repeat first | exact .head | apply Rem.tail) (.cons (by repeat first | exact .head | apply Rem.tail) (.cons (by repeat first | exact .head | apply Rem.tail) (.cons (by repeat first | exact .head | apply Rem.tail) .nil)))) (by repeat first | exact .refl | apply Drop.skip))) ?_
 ·
  exact ⟨hok0, hlp0⟩
 intro s
 rintro ⟨hok, hlp⟩
 rcases (Bool.eq_false_or_eq_true s.ended) with he | he
 ·
  refine w_seq ?_
  refine w_seq ?_
  have hro := hok.room
  refine w_opnR (by repeat first | exact .head | apply Rem.tail) (fun h hh => mm_open hh) ?_
  rintro ⟨li, di⟩ _
  dsimp only
  simp only [List.cons_append, List.nil_append]
  refine w_opn (fun h hh => ms_open hh) ?_
  rintro ⟨po, co⟩ _
  dsimp only
  simp only [List.cons_append, List.nil_append]
  refine w_net [⟨[], [], [0], 0, 0⟩, ⟨[0], [0], [], 0, 0⟩, ⟨[0, 1], [1], [], 0, 0⟩, ⟨[0, 1, 2], [2], [], 0, 0⟩, ⟨[0, 1, 2, 3], [3], [], 0, 0⟩, ⟨[0, 1, 2, 3, 4], [4], [], 0, 0⟩, ⟨[0, 1, 2, 3, 4, 5], [5], [0], 0, 0⟩, ⟨[0, 1, 2, 3, 4, 5, 6], [6, 5], [], 0, 0⟩, ⟨[0, 1, 2, 3, 4, 5, 6, 7], [7, 5], [], 0, 0⟩, ⟨[0, 1, 2, 3, 4, 5, 6, 7, 8], [8, 5], [], 0, 0⟩, ⟨[0, 1, 2, 3, 4, 5, 6, 7, 8, 9], [9, 5], [], 0, 0⟩, ⟨[0, 1, 2, 3, 4, 5], [5], [1], 0, 0⟩, ⟨[0, 1, 2, 3, 4, 5, 6, 7, 8, 9, 10, 11], [10, 11, 5], [], 0, 0⟩, ⟨[0, 1, 2, 3, 4, 5], [5], [2], 0, 0⟩, ⟨[0, 1, 2, 3, 4, 5, 6, 7, 8, 9, 10, 11, 12, 13], [12, 13, 5], [], 0, 0⟩, ⟨[0, 1, 2, 3, 4, 5, 6, 7, 8, 9, 10, 11, 12, 13, 14], [5, 14], [], 0, 0⟩] [⟨fun y => Cel b 67 [.pointer (some ⟨bl, 0, none⟩), .int .i64 sz, .int .i64 mo, .slice po s.out.length co, .bool s.ended, .int .i64 0, .int .i64 s.kind, .int .i64 (s.left : Int), .bool s.last, li, di, .int .i64 (s.copies : Int), .int .i64 (s.far : Int)], none, none, [3]⟩, ⟨fun y => Row U5 po s.out.length co s.out, none, none, []⟩, ⟨fun y => LW bl B s.at_ [] 0, none, none, []⟩, ⟨fun y => CD li di s, none, none, []⟩, ⟨fun y => Cel bm 31 [.pointer (some ⟨b, 0, none⟩)], none, none, [0]⟩, ⟨fun y => Cel bw 3 [.int .i64 (w : Int)], none, none, []⟩, ⟨fun y => Cel bn 3 [.int .i64 n], none, none, []⟩] F V.mixed (by kernel_rfl) rfl (fun _ => .refl _) (locT_0 _ (locT_0 _ (locT_0 _ (locT_0 _ (locT_0 _ (locT_0 _ (locT_0 _ locT_nil))))))) ?_
  refine net_read (fun y => [Cel bm 31 [.pointer (some ⟨b, 0, none⟩)]]) (fun y => [(0, _)]) (fun y => rfl) rfl (fun y => rfl) rfl (fun y FF hA => st_v (v_load V.s31 rfl (by repeat first | exact .head _ | apply List.Mem.tail) rfl) ⟨rfl, rfl⟩) (by intros; rfl) (by intro y y2 h; rfl) ?_
  refine net_pure (fun y => [(3, _)]) (fun y => rfl) rfl rfl rfl (fun y hA L => st_v (v_nil rfl) ⟨rfl, rfl⟩) (by intros; rfl) (by intro y y2 h; rfl) ?_
  refine net_pure (fun y => [(4, _)]) (fun y => rfl) rfl rfl rfl (fun y hA L => st_v (v_fieldAddr V.f67_4 rfl) ⟨rfl, rfl⟩) (by intros; rfl) (by intro y y2 h; rfl) ?_
  refine net_read (fun y => [Cel b 67 [.pointer (some ⟨bl, 0, none⟩), .int .i64 sz, .int .i64 mo, .slice po s.out.length co, .bool s.ended, .int .i64 0, .int .i64 s.kind, .int .i64 (s.left : Int), .bool s.last, li, di, .int .i64 (s.copies : Int), .int .i64 (s.far : Int)]]) (fun y => [(5, _)]) (fun y => rfl) rfl (fun y => rfl) rfl (fun y FF hA => st_v (v_to (v := .bool true) (v_load V.s4 rfl (by repeat first | exact .head _ | apply List.Mem.tail) rfl) (by rw [he])) ⟨rfl, rfl⟩) (by intros; rfl) (by intro y y2 h; rfl) ?_
  refine net_pure (fun y => [(6, _)]) (fun y => rfl) rfl rfl rfl (fun y hA L => st_v (v_to (v := .bool false) (v_not rfl) rfl) ⟨rfl, rfl⟩) (by intros; rfl) (by intro y y2 h; rfl) ?_
  refine net_pure (fun y => [(7, _)]) (fun y => rfl) rfl rfl rfl (fun y hA L => st_v (v_move rfl) ⟨rfl, rfl⟩) (by intros; rfl) (by intro y y2 h; rfl) ?_
  refine net_pure (fun y => [(8, _), (0, _)]) (fun y => rfl) rfl rfl rfl (fun y hA L => st_pass rfl rfl ⟨rfl, rfl⟩) (by intros; rfl) (by intro y y2 h; rfl) ?_
  refine net_pure (fun y => [(9, _), (8, _)]) (fun y => rfl) rfl rfl rfl (fun y hA L => st_pass rfl rfl ⟨rfl, rfl⟩) (by intros; rfl) (by intro y y2 h; rfl) ?_
  refine net_pure (fun y => [(10, _), (8, _)]) (fun y => rfl) rfl rfl rfl (fun y hA L => st_pass rfl rfl ⟨rfl, rfl⟩) (by intros; rfl) (by intro y y2 h; rfl) ?_
  refine net_pure (fun y => [(11, _), (8, _)]) (fun y => rfl) rfl rfl rfl (fun y hA L => st_pass rfl rfl ⟨rfl, rfl⟩) (by intros; rfl) (by intro y y2 h; rfl) ?_
  refine net_pure (fun y => [(12, _), (8, _)]) (fun y => rfl) rfl rfl rfl (fun y hA L => st_pass rfl rfl ⟨rfl, rfl⟩) (by intros; rfl) (by intro y y2 h; rfl) ?_
  refine net_pure (fun y => [(8, _), (1, _)]) (fun y => rfl) rfl rfl rfl (fun y hA L => st_pass rfl rfl ⟨rfl, rfl⟩) (by intros; rfl) (by intro y y2 h; rfl) ?_
  refine net_pure (fun y => [(13, _), (14, _), (8, _)]) (fun y => rfl) rfl rfl rfl (fun y hA L => st_pass rfl rfl ⟨rfl, rfl⟩) (by intros; rfl) (by intro y y2 h; rfl) ?_
  refine net_pure (fun y => [(8, _), (2, _)]) (fun y => rfl) rfl rfl rfl (fun y hA L => st_pass rfl rfl ⟨rfl, rfl⟩) (by intros; rfl) (by intro y y2 h; rfl) ?_
  refine net_pure (fun y => [(15, _), (16, _), (8, _)]) (fun y => rfl) rfl rfl rfl (fun y hA L => st_pass rfl rfl ⟨rfl, rfl⟩) (by intros; rfl) (by intro y y2 h; rfl) ?_
  refine net_pure (fun y => [(8, _), (17, _)]) (fun y => rfl) rfl rfl rfl (fun y hA L => st_v (v_pickF rfl rfl) ⟨rfl, rfl⟩) (by intros; rfl) (by intro y y2 h; rfl) ?_
  refine net_nil ?_
  intro y hA
  clear hA
  refine thn_n ?_
  refine w_keep _ (.cons (d := 0) rfl (.cons (d := 1) rfl (.cons (d := 2) rfl (.cons (d := 18) rfl (.nil _))))) ?_
  refine w_sub (M := Cel b 67 [.pointer (some ⟨bl, 0, none⟩), .int .i64 sz, .int .i64 mo, .slice po s.out.length co, .bool s.ended, .int .i64 0, .int .i64 s.kind, .int .i64 (s.left : Int), .bool s.last, li, di, .int .i64 (s.copies : Int), .int .i64 (s.far : Int)] :: Row U5 po s.out.length co s.out :: LW bl B s.at_ [] 0 :: CD li di s :: Cel bm 31 [.pointer (some ⟨b, 0, none⟩)] :: Cel bw 3 [.int .i64 (w : Int)] :: Cel bn 3 [.int .i64 n] :: F) (fun _ _ h => h) ?_
  refine w_condF rfl ?_
  refine w_exit ?_
  refine thn_e ?_
  refine thn_e ?_
  refine blk_x ?_
  refine (fun hs => pe_end (x := s) (InfP.lp_at hlp (by first | exact .inl he | exact .inr (by omega))) res0 ⟨rfl, rfl⟩ (Sl.Sub.trans ((fold' (.cons (by repeat first | exact .head | apply Rem.tail) (.cons (by repeat first | exact .head | apply Rem.tail) .nil)) .refl (fun w0 h hh => ms_close (s := s) rfl hh)).trans (fold' (.cons (by repeat first | exact .head | apply Rem.tail) (.cons (by repeat first | exact .head | apply Rem.tail) (.cons (by repeat first | exact .head | apply Rem.tail) .nil))) .refl (fun w0 h hh => mm_closeD (s := s) hh))) hs)) (sub (.cons (by repeat first | exact .head | apply Rem.tail) (.cons (by repeat first | exact .head | apply Rem.tail) (.cons (by repeat first | exact .head | apply Rem.tail) (.cons (by repeat first | exact .head | apply Rem.tail) .nil)))) (by repeat first | exact .refl | apply Drop.skip))
 ·
  refine w_seq ?_
  refine w_seq ?_
  have hro := hok.room
  refine w_opnR (by repeat first | exact .head | apply Rem.tail) (fun h hh => mm_open hh) ?_
  rintro ⟨li, di⟩ _
  dsimp only
  simp only [List.cons_append, List.nil_append]
  refine w_opn (fun h hh => ms_open hh) ?_
  rintro ⟨po, co⟩ _
  dsimp only
  simp only [List.cons_append, List.nil_append]
  refine w_net [⟨[], [], [0], 0, 0⟩, ⟨[0], [0], [], 0, 0⟩, ⟨[0, 1], [1], [], 0, 0⟩, ⟨[0, 1, 2], [2], [], 0, 0⟩, ⟨[0, 1, 2, 3], [3], [], 0, 0⟩, ⟨[0, 1, 2, 3, 4], [4], [], 0, 0⟩, ⟨[0, 1, 2, 3, 4, 5], [5], [0], 0, 0⟩, ⟨[0, 1, 2, 3, 4, 5, 6], [6, 5], [], 0, 0⟩, ⟨[0, 1, 2, 3, 4, 5, 6, 7], [7, 5], [], 0, 0⟩, ⟨[0, 1, 2, 3, 4, 5, 6, 7, 8], [8, 5], [], 0, 0⟩, ⟨[0, 1, 2, 3, 4, 5, 6, 7, 8, 9], [9, 5], [], 0, 0⟩, ⟨[0, 1, 2, 3, 4, 5], [5], [1], 0, 0⟩, ⟨[0, 1, 2, 3, 4, 5, 6, 7, 8, 9, 10, 11], [10, 11, 5], [], 0, 0⟩, ⟨[0, 1, 2, 3, 4, 5], [5], [2], 0, 0⟩, ⟨[0, 1, 2, 3, 4, 5, 6, 7, 8, 9, 10, 11, 12, 13], [12, 13, 5], [], 0, 0⟩, ⟨[0, 1, 2, 3, 4, 5, 6, 7, 8, 9, 10, 11, 12, 13, 14], [5, 14], [], 0, 0⟩] [⟨fun y => Cel b 67 [.pointer (some ⟨bl, 0, none⟩), .int .i64 sz, .int .i64 mo, .slice po s.out.length co, .bool s.ended, .int .i64 0, .int .i64 s.kind, .int .i64 (s.left : Int), .bool s.last, li, di, .int .i64 (s.copies : Int), .int .i64 (s.far : Int)], none, none, [3, 9]⟩, ⟨fun y => Row U5 po s.out.length co s.out, none, none, []⟩, ⟨fun y => LW bl B s.at_ [] 0, none, none, []⟩, ⟨fun y => CD li di s, none, none, []⟩, ⟨fun y => Cel bm 31 [.pointer (some ⟨b, 0, none⟩)], none, none, [0, 6]⟩, ⟨fun y => Cel bw 3 [.int .i64 (w : Int)], none, none, [11]⟩, ⟨fun y => Cel bn 3 [.int .i64 n], none, none, [13]⟩] F V.mixed (by kernel_rfl) rfl (fun _ => .refl _) (locT_0 _ (locT_0 _ (locT_0 _ (locT_0 _ (locT_0 _ (locT_0 _ (locT_0 _ locT_nil))))))) ?_
  refine net_read (fun y => [Cel bm 31 [.pointer (some ⟨b, 0, none⟩)]]) (fun y => [(0, _)]) (fun y => rfl) rfl (fun y => rfl) rfl (fun y FF hA => st_v (v_load V.s31 rfl (by repeat first | exact .head _ | apply List.Mem.tail) rfl) ⟨rfl, rfl⟩) (by intros; rfl) (by intro y y2 h; rfl) ?_
  refine net_pure (fun y => [(3, _)]) (fun y => rfl) rfl rfl rfl (fun y hA L => st_v (v_nil rfl) ⟨rfl, rfl⟩) (by intros; rfl) (by intro y y2 h; rfl) ?_
  refine net_pure (fun y => [(4, _)]) (fun y => rfl) rfl rfl rfl (fun y hA L => st_v (v_fieldAddr V.f67_4 rfl) ⟨rfl, rfl⟩) (by intros; rfl) (by intro y y2 h; rfl) ?_
  refine net_read (fun y => [Cel b 67 [.pointer (some ⟨bl, 0, none⟩), .int .i64 sz, .int .i64 mo, .slice po s.out.length co, .bool s.ended, .int .i64 0, .int .i64 s.kind, .int .i64 (s.left : Int), .bool s.last, li, di, .int .i64 (s.copies : Int), .int .i64 (s.far : Int)]]) (fun y => [(5, _)]) (fun y => rfl) rfl (fun y => rfl) rfl (fun y FF hA => st_v (v_to (v := .bool false) (v_load V.s4 rfl (by repeat first | exact .head _ | apply List.Mem.tail) rfl) (by rw [he])) ⟨rfl, rfl⟩) (by intros; rfl) (by intro y y2 h; rfl) ?_
  refine net_pure (fun y => [(6, _)]) (fun y => rfl) rfl rfl rfl (fun y hA L => st_v (v_to (v := .bool true) (v_not rfl) rfl) ⟨rfl, rfl⟩) (by intros; rfl) (by intro y y2 h; rfl) ?_
  refine net_pure (fun y => [(7, _)]) (fun y => rfl) rfl rfl rfl (fun y hA L => st_v (v_move rfl) ⟨rfl, rfl⟩) (by intros; rfl) (by intro y y2 h; rfl) ?_
  refine net_read (fun y => [Cel bm 31 [.pointer (some ⟨b, 0, none⟩)]]) (fun y => [(8, _), (0, _)]) (fun y => rfl) rfl (fun y => rfl) rfl (fun y FF hA => st_want rfl (st_v (v_load V.s31 rfl (by repeat first | exact .head _ | apply List.Mem.tail) rfl) ⟨rfl, rfl⟩)) (by intros; rfl) (by intro y y2 h; rfl) ?_
  refine net_pure (fun y => [(9, _), (8, _)]) (fun y => rfl) rfl rfl rfl (fun y hA L => st_want rfl (st_v (v_nil rfl) ⟨rfl, rfl⟩)) (by intros; rfl) (by intro y y2 h; rfl) ?_
  refine net_pure (fun y => [(10, _), (8, _)]) (fun y => rfl) rfl rfl rfl (fun y hA L => st_want rfl (st_v (v_fieldAddr V.f67_3 rfl) ⟨rfl, rfl⟩)) (by intros; rfl) (by intro y y2 h; rfl) ?_
  refine net_read (fun y => [Cel b 67 [.pointer (some ⟨bl, 0, none⟩), .int .i64 sz, .int .i64 mo, .slice po s.out.length co, .bool s.ended, .int .i64 0, .int .i64 s.kind, .int .i64 (s.left : Int), .bool s.last, li, di, .int .i64 (s.copies : Int), .int .i64 (s.far : Int)]]) (fun y => [(11, _), (8, _)]) (fun y => rfl) rfl (fun y => rfl) rfl (fun y FF hA => st_want rfl (st_v (v_load V.s22 rfl (by repeat first | exact .head _ | apply List.Mem.tail) rfl) ⟨rfl, rfl⟩)) (by intros; rfl) (by intro y y2 h; rfl) ?_
  refine net_pure (fun y => [(12, _), (8, _)]) (fun y => rfl) rfl rfl rfl (fun y hA L => st_want rfl (st_v (v_len (ty' := 0) Try.underlying22 rfl) ⟨rfl, rfl⟩)) (by intros; rfl) (by intro y y2 h; rfl) ?_
  refine net_read (fun y => [Cel bw 3 [.int .i64 (w : Int)]]) (fun y => [(8, _), (1, _)]) (fun y => rfl) rfl (fun y => rfl) rfl (fun y FF hA => st_want rfl (st_v (v_load V.s3 rfl (by repeat first | exact .head _ | apply List.Mem.tail) rfl) ⟨rfl, rfl⟩)) (by intros; rfl) (by intro y y2 h; rfl) ?_
  refine net_pure (fun y => [(13, _), (14, _), (8, _)]) (fun y => rfl) rfl rfl rfl (fun y hA L => st_want rfl (st_v (v_sub rfl rfl (wrapI (by omega) (by omega))) ⟨rfl, rfl⟩)) (by intros; rfl) (by intro y y2 h; rfl) ?_
  refine net_read (fun y => [Cel bn 3 [.int .i64 n]]) (fun y => [(8, _), (2, _)]) (fun y => rfl) rfl (fun y => rfl) rfl (fun y FF hA => st_want rfl (st_v (v_load V.s3 rfl (by repeat first | exact .head _ | apply List.Mem.tail) rfl) ⟨rfl, rfl⟩)) (by intros; rfl) (by intro y y2 h; rfl) ?_
  refine net_pure (fun y => [(15, _), (16, _), (8, _)]) (fun y => rfl) rfl rfl rfl (fun y hA L => st_want rfl (st_v (v_lss rfl rfl) ⟨rfl, rfl⟩)) (by intros; rfl) (by intro y y2 h; rfl) ?_
  refine net_pure (fun y => [(8, _), (17, _)]) (fun y => rfl) rfl rfl rfl (fun y hA L => st_v (v_pickT rfl rfl) ⟨rfl, rfl⟩) (by intros; rfl) (by intro y y2 h; rfl) ?_
  refine net_nil ?_
  intro y hA
  clear hA
  refine thn_n ?_
  refine w_keep _ (.cons (d := 0) rfl (.cons (d := 1) rfl (.cons (d := 2) rfl (.cons (d := 18) rfl (.nil _))))) ?_
  refine w_sub (M := Cel b 67 [.pointer (some ⟨bl, 0, none⟩), .int .i64 sz, .int .i64 mo, .slice po s.out.length co, .bool s.ended, .int .i64 0, .int .i64 s.kind, .int .i64 (s.left : Int), .bool s.last, li, di, .int .i64 (s.copies : Int), .int .i64 (s.far : Int)] :: Row U5 po s.out.length co s.out :: LW bl B s.at_ [] 0 :: CD li di s :: Cel bm 31 [.pointer (some ⟨b, 0, none⟩)] :: Cel bw 3 [.int .i64 (w : Int)] :: Cel bn 3 [.int .i64 n] :: F) (fun _ _ h => h) ?_
  first | refine w_condD rfl (fun h18 => ?_) (fun h18 => ?_) | refine w_cond rfl (fun h18 => ?_) (fun h18 => ?_)
  ·
   refine w_skip ?_
   refine thn_n ?_
   refine w_block ?_
   rcases (InfP.ex_or (InfP.one B mo s)) with ⟨e, hp⟩ | ⟨s2, hp⟩
   ·
    refine w_sub ((fold' (.cons (by repeat first | exact .head | apply Rem.tail) (.cons (by repeat first | exact .head | apply Rem.tail) .nil)) .refl (fun w0 h hh => ms_close (s := s) rfl hh)).trans (fold' (.cons (by repeat first | exact .head | apply Rem.tail) (.cons (by repeat first | exact .head | apply Rem.tail) (.cons (by repeat first | exact .head | apply Rem.tail) .nil))) .refl (fun w0 h hh => mm_closeD (s := s) hh))) ?_
    refine w_region ?_
    refine o_val (v_load V.s31 rfl (by repeat first | exact .head _ | apply List.Mem.tail) rfl) rfl ?_
    refine o_callE ((c_one b bl sz mo s B hl hB hm hok).err hp) V.b31 rfl (.cons (by repeat first | exact .head | apply Rem.tail) .nil) ?_
    rintro _ _ ⟨hpe, rfl⟩
    refine (blk_p (thn_p (blk_p ?_)))
    exact pe_pan (InfP.lp_er hlp he (by omega) hp) hpe (sub (.cons (by repeat first | exact .head | apply Rem.tail) (.cons (by repeat first | exact .head | apply Rem.tail) (.cons (by repeat first | exact .head | apply Rem.tail) (.cons (by repeat first | exact .head | apply Rem.tail) .nil)))) (by repeat first | exact .refl | apply Drop.skip))
   ·
    refine w_sub ((fold' (.cons (by repeat first | exact .head | apply Rem.tail) (.cons (by repeat first | exact .head | apply Rem.tail) .nil)) .refl (fun w0 h hh => ms_close (s := s) rfl hh)).trans (fold' (.cons (by repeat first | exact .head | apply Rem.tail) (.cons (by repeat first | exact .head | apply Rem.tail) (.cons (by repeat first | exact .head | apply Rem.tail) .nil))) .refl (fun w0 h hh => mm_closeD (s := s) hh))) ?_
    have hg := InfP.one_good hB hok hp
    refine w_region ?_
    refine o_val (v_load V.s31 rfl (by repeat first | exact .head _ | apply List.Mem.tail) rfl) rfl ?_
    refine o_call ((c_one b bl sz mo s B hl hB hm hok).ok hp) V.b31  rfl (.cons (by repeat first | exact .head | apply Rem.tail) .nil) rfl ?_
    rintro _ _ ⟨rfl, rfl⟩
    refine o_nil ?_
    refine blk_n ?_
    refine j1 (s2) ?_ (.cons rfl (.cons rfl (.cons rfl (.nil _)))) (sub (.cons (by repeat first | exact .head | apply Rem.tail) (.cons (by repeat first | exact .head | apply Rem.tail) (.cons (by repeat first | exact .head | apply Rem.tail) (.cons (by repeat first | exact .head | apply Rem.tail) .nil)))) (by repeat first | exact .refl | apply Drop.skip))
    exact ⟨⟨hg.ok, InfP.lp_go hlp he (by omega) hp⟩, hg.less⟩
  ·
   refine w_exit ?_
   refine thn_e ?_
   refine thn_e ?_
   refine blk_x ?_
   refine (fun hs => pe_end (x := s) (InfP.lp_at hlp (by first | exact .inl he | exact .inr (by omega))) res0 ⟨rfl, rfl⟩ (Sl.Sub.trans ((fold' (.cons (by repeat first | exact .head | apply Rem.tail) (.cons (by repeat first | exact .head | apply Rem.tail) .nil)) .refl (fun w0 h hh => ms_close (s := s) rfl hh)).trans (fold' (.cons (by repeat first | exact .head | apply Rem.tail) (.cons (by repeat first | exact .head | apply Rem.tail) (.cons (by repeat first | exact .head | apply Rem.tail) .nil))) .refl (fun w0 h hh => mm_closeD (s := s) hh))) hs)) (sub (.cons (by repeat first | exact .head | apply Rem.tail) (.cons (by repeat first | exact .head | apply Rem.tail) (.cons (by repeat first | exact .head | apply Rem.tail) (.cons (by repeat first | exact .head | apply Rem.tail) .nil)))) (by repeat first | exact .refl | apply Drop.skip))
end Go.Proofs.Ytoplcgkafaoafaa

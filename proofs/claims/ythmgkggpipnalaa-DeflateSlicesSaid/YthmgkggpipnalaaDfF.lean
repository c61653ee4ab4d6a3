/-
  Steps of the proof: walks of functions that the statement reaches; printed by a program of ours.
-/
import Derived.Test.YthmgkggpipnalaaSl22
import Derived.KernelRfl
import Derived.Test.YthmgkggpipnalaaM42
import Derived.Test.YthmgkggpipnalaaDhU
namespace Go.Proofs.Ythmgkggpipnalaa
open Go.Sl 
set_option linter.unusedVariables false
theorem TTDfF : okT Try.prog ⟨[34], [(90, 0, 0)]⟩ = true := by kernel_rfl
set_option linter.unusedSimpArgs false

attribute [local irreducible] HuffP.newE HuffP.ord HuffP.cntL HuffP.words HuffP.mostL HuffP.wb HuffP.lkB HuffP.lkN HuffP.lkW DefP.toksB InfP.fixL BitP.lowB DefP.byB DefP.rarF DefP.cntA DefP.fA DefP.fB PkM.lenF HuffP.bits DefP.dA DefP.dB DefP.dF DefP.dFr DefP.cntC DefP.dAll DefP.dC0 DefP.ordB DefP.dH0 List.replicate DefP.incr


theorem k_lenN (p : Option Addr) (c n : Nat) (fr o : List Int) (most : Int) (R : HProp) (hR : ∀ w0 h, R w0 h → RdR I3 p n fr w0 h) (hn : fr.length = n) (hOk : OkL fr most) (ho : PkM.lenF fr most.toNat = o) : Ctr Try.prog 43 [.slice p n c, .int .i64 most] [R] (Ret fun v G => ∃ b, v = .tuple #[.slice (some ⟨b, 0, none⟩) n n, .bool true] ∧ G = [Row I3 (some ⟨b, 0, none⟩) n n o, R]) := by
  subst hn
  refine (h_lengths p c fr most R hR).mono ?_
  rintro e G ⟨v, rfl, h⟩
  rcases h with ⟨h, _⟩ | ⟨_, b, o2, rfl, hg, rfl⟩
  · exact absurd hOk h
  · have := hg.det
    rw [ho] at this
    subst this
    exact ⟨_, rfl, b, rfl, rfl⟩
theorem k_orderS : Ctr Try.prog 44 [] [] (Ret fun v G => ∃ p c, v = .slice p 19 c ∧ G = [Row I3 p 19 c InfP.ordr]) := by
  refine k_order.mono ?_
  rintro e G ⟨v, rfl, q, rfl, rfl⟩
  exact ⟨_, rfl, _, _, rfl, rfl⟩
theorem k_writeN (bl : Nat) (pa : Option Addr) (a : List Int) (n ca : Nat) (pd : Option Addr) (d : List Int) (m cd : Nat) (q : Option Addr) (cq : Nat) (l : List DefP.Tok) (bs : List Int) (RT RA RD : HProp) (hRT : ∀ w0 h, RT w0 h → RdR TK q l.length l w0 h) (hRA : ∀ w0 h, RA w0 h → RdR I3 pa n a w0 h) (hRD : ∀ w0 h, RD w0 h → RdR I3 pd m d w0 h) (hn : a.length = n) (hm : d.length = m) (hEa : HuffP.newE a = 0) (hEd : HuffP.newE d = 0) (hF : DefP.Fits a d l) (hl : l.length ≤ 4194304) (hb : bs.length ≤ 20000) : Ctr Try.prog 40 [.agg #[.pointer (some ⟨bl, 0, none⟩), .slice pa n ca, .slice pd m cd], .slice q l.length cq] [WB bl bs, RT, RA, RD] (Ret fun v G => v = .tuple #[] ∧ G = [WB bl (bs ++ (DefP.toksB a d l ++ HuffP.wb a 256)), RT, RA, RD]) := by
  subst hn; subst hm
  exact k_write bl pa a ca pd d cd q cq l bs RT RA RD hRT hRA hRD hEa hEd hF hl hb
theorem ok_A {l : List DefP.Tok} (hl : l.length ≤ 4194304) : OkL (DefP.fA l) 15 := ⟨by decide, by decide, by rw [DefP.fA_len]; decide, DefP.fA_ok hl, by have := PkM.lvs_len (DefP.fA l) (DefP.fA l).length; rw [DefP.fA_len] at *; have e : 2 ^ (15 : Int).toNat = 32768 := (by decide); omega⟩
theorem ok_B {l : List DefP.Tok} (hl : l.length ≤ 4194304) : OkL (DefP.fB l) 15 := ⟨by decide, by decide, by rw [DefP.fB_len]; decide, DefP.fB_ok hl, by have := PkM.lvs_len (DefP.fB l) (DefP.fB l).length; rw [DefP.fB_len] at *; have e : 2 ^ (15 : Int).toNat = 32768 := (by decide); omega⟩
theorem ok_F {l : List DefP.Tok} (hl : l.length ≤ 4194304) : OkL (DefP.dFr l) 7 := ⟨by decide, by decide, by rw [DefP.dFr_len]; decide, DefP.dFr_ok hl, by have := PkM.lvs_len (DefP.dFr l) (DefP.dFr l).length; rw [DefP.dFr_len] at *; have e : 2 ^ (7 : Int).toNat = 128 := (by decide); omega⟩
theorem h_newN (p : Option Addr) (c n : Nat) (ls : List Int) (R : HProp) (hR : ∀ w0 h, R w0 h → RdR I3 p n ls w0 h) (hn : ls.length = n) (hE : HuffP.newE ls = 0) : Ctr Try.prog 45 [.slice p n c] [R] (Ret fun v G => ∃ b, v = .tuple #[.pointer (some ⟨b, 0, none⟩), .int .i64 0] ∧ G = [HC b ls, R]) := by
  subst hn
  exact h_new_yes p c ls R hR hE
theorem dh0_eq : [] ++ BitP.lowB 1 1 ++ BitP.lowB 2 2 ++ BitP.lowB 29 5 ++ BitP.lowB 29 5 ++ BitP.lowB 15 4 = DefP.dH0 := by unfold DefP.dH0; rfl
theorem dh0_len : DefP.dH0.length = 17 := by unfold DefP.dH0; simp only [List.length_append, BitP.lowB_len]


set_option maxHeartbeats 8000000 in
set_option maxRecDepth 100000 in
theorem k_dynamic (q : Option Addr) (cq : Nat) (l : List DefP.Tok) (RT : HProp) (hRT : ∀ w0 h, RT w0 h → RdR TK q l.length l w0 h) (hok : ∀ t ∈ l, DefP.TokOk t) (hl : l.length ≤ 4194304) : Ctr Try.prog 35 [.slice q l.length cq] [RT] (Ret fun v G => ∃ q c, v = .slice q (DefP.dyS l).length c ∧ G = [Row U5 q (DefP.dyS l).length c (DefP.dyS l), RT]) := by
  refine spec_of [(0, _)] Try.func35 rfl Try.ntmps35 rfl rfl ?_
  intro w0 F
  have hAl := DefP.dA_len hl
  have hBl := DefP.dB_len hl
  have hFl := DefP.dF_len l
  have hLl := DefP.dAll_len hl
  have hgA := DefP.gdA hl
  have hgB := DefP.gdB hl
  have hgF := DefP.gdF l
  have hFi := DefP.dFits hok hl
  have hVF := (HuffP.newE_vl hgF.code).1
  refine rT TTDfF 8 rfl ?_
  refine o_call (k_counted q cq l RT hRT hok hl) V.b42  rfl (.cons (by exact rr0) .nil) rfl ?_
  rintro _ _ ⟨ba, bb, rfl, rfl⟩
  refine rO TTDfF 10 rfl ?_
  refine o_call (k_lenN (some ⟨ba, 0, none⟩) 286 286 (DefP.fA l) (DefP.dA l) 15 (Row I3 (some ⟨ba, 0, none⟩) 286 286 (DefP.fA l)) (fun _ _ hh => hh.rd) (DefP.fA_len l) (ok_A hl) (by unfold DefP.dA; rfl)) V.b43  rfl (.cons (by exact rr0) .nil) rfl ?_
  rintro _ _ ⟨b25, rfl, rfl⟩
  refine rO TTDfF 9 rfl ?_
  refine o_call (k_lenN (some ⟨bb, 0, none⟩) 30 30 (DefP.fB l) (DefP.dB l) 15 (Row I3 (some ⟨bb, 0, none⟩) 30 30 (DefP.fB l)) (fun _ _ hh => hh.rd) (DefP.fB_len l) (ok_B hl) (by unfold DefP.dB; rfl)) V.b43  rfl (.cons (by exact rr2) .nil) rfl ?_
  rintro _ _ ⟨b30, rfl, rfl⟩
  refine rO TTDfF 9 rfl ?_
  refine o_add0 (Row (I3) none 0 0 []) (Row.nil _ _ _) ?_
  refine r_append (c := (I3)) V.sl34 V.z3 rfl rfl rfl rfl (by exact rr0) (by exact own mm3) (by omega) rfl ?_
  intro p34 c34
  refine o_val (v_move rfl) rfl ?_
  refine r_append (c := (I3)) V.sl34 V.z3 rfl rfl rfl rfl (by exact rr0) (by exact own mm1) (by omega) rfl ?_
  intro p36 c36
  refine rO TTDfF 4 rfl ?_
  rw [show [] ++ DefP.dA l ++ DefP.dB l = DefP.dAll l from by unfold DefP.dAll; rfl]
  refine w_region ?_
  refine r_makeN 19 19 (I3) rfl rfl V.sl34 V.z3 rfl rfl rfl rfl (by omega) (by omega) rfl rfl ?_
  intro b37
  refine rO TTDfF 12 rfl ?_
  rw [show List.replicate 19 I3.d = DefP.cntC ((DefP.dAll l).take 0) DefP.dC0 from by rw [List.take_zero]; simp only [DefP.cntC]; unfold DefP.dC0; rfl]
  refine w_loop1 (fun (k : Nat) => [(0, .slice q l.length cq), (3, .slice (some ⟨b25, 0, none⟩) 286 286), (4, .slice (some ⟨b30, 0, none⟩) 30 30), (5, .slice p36 316 c36), (6, .slice (some ⟨b37, 0, none⟩) 19 19), (38, .slice p36 316 c36), (39, .int .i64 316), (40, .int .i64 (k : Int))]) (fun (k : Nat) => Row I3 (some ⟨b37, 0, none⟩) 19 19 (DefP.cntC ((DefP.dAll l).take k) DefP.dC0) :: Row I3 p36 316 c36 (DefP.dAll l) :: Row I3 (some ⟨b25, 0, none⟩) 286 286 (DefP.dA l) :: Row I3 (some ⟨b30, 0, none⟩) 30 30 (DefP.dB l) :: RT :: F) (fun (k : Nat) => k ≤ 316) (fun (k : Nat) => 316 - k) (i1 (0) ?_ (.cons rfl (.cons rfl (.cons rfl (.cons rfl (.cons rfl (.cons rfl (.cons rfl (.cons rfl (.nil _))))))))) (sub (.cons (by exact rr0) (.cons (by exact rr0) (.cons (by exact rr2) (.cons (by exact rr0) (.cons (by exact rr2) .nil))))) (by exact dd2))) ?_
  ·
    exact Nat.zero_le _
  intro k
  rintro hk
  refine rL TTDfF 6 rfl ?_
  refine w_condD rfl (fun h41 => ?_) (fun h41 => ?_)
  ·
    refine rC TTDfF 6 rfl ?_
    refine o_val (r_index (c := (I3)) V.sl34 rfl rfl (by exact own mm1) (by omega) (by omega)) rfl ?_
    refine o_val (r_load (c := (I3)) V.s3 rfl (by exact own mm1) (by omega) (by omega) rfl rfl) rfl ?_
    refine rO TTDfF 3 rfl ?_
    have hk2 : k < (DefP.dAll l).length := by omega
    have hxm : (I3.g (DefP.dAll l) (k : Int)) ∈ DefP.dAll l := by rw [show (I3.g (DefP.dAll l) (k : Int)) = (DefP.dAll l)[k] from by simp [Ec.g, hk2]]; exact List.getElem_mem hk2
    have hin := DefP.dAll_in hl hxm
    have hcl : (DefP.cntC ((DefP.dAll l).take k) DefP.dC0).length = 19 := (DefP.cntC_len _ _).trans (by unfold DefP.dC0; rw [List.length_replicate])
    have hv : 0 ≤ I3.g (DefP.cntC ((DefP.dAll l).take k) DefP.dC0) (I3.g (DefP.dAll l) (k : Int)) ∧ I3.g (DefP.cntC ((DefP.dAll l).take k) DefP.dC0) (I3.g (DefP.dAll l) (k : Int)) ≤ 316 := DefP.dFr_all hl _
    refine rC TTDfF 3 rfl ?_
    refine o_val (r_index (c := (I3)) V.sl34 rfl rfl (by exact own mm0) (by omega) (by omega)) rfl ?_
    refine o_val (r_load (c := (I3)) V.s3 rfl (by exact own mm0) (by omega) (by omega) rfl rfl) rfl ?_
    refine rOs TTDfF 1 rfl (by omega) ?_
    refine o_val (r_index (c := (I3)) V.sl34 rfl rfl (by exact own mm0) (by omega) (by omega)) rfl ?_
    refine o_eff (r_store (c := (I3)) (_) V.s3 rfl rfl rfl (by exact pp0) (by omega) (by omega) rfl rfl) ?_
    refine rOs TTDfF 7 rfl (by omega) ?_
    rw [incr_row (l := (DefP.cntC ((DefP.dAll l).take k) DefP.dC0)) (l' := DefP.cntC ((DefP.dAll l).take (k + 1)) DefP.dC0) (s := (I3.g (DefP.dAll l) (k : Int))) (by rw [show (I3.g (DefP.dAll l) (k : Int)) = (DefP.dAll l)[k] from by simp [Ec.g, hk2]]; exact DefP.cntC_next hk2) rfl]
    refine j1 (k + 1) ?_ (.cons rfl (.cons rfl (.cons rfl (.cons rfl (.cons rfl (.cons rfl (.cons rfl (.cons rfl (.nil _))))))))) (sub (.cons (by exact rr0) (.cons (by exact rr0) (.cons (by exact rr0) (.cons (by exact rr0) (.cons (by exact rr0) .nil))))) (by exact dd0))
    exact ⟨by omega, by omega⟩
  ·
    refine rC TTDfF 6 rfl ?_
    have hk3 : k = 316 := by omega
    rw [hk3, List.take_of_length_le (by omega), show DefP.cntC (DefP.dAll l) DefP.dC0 = DefP.dFr l from by unfold DefP.dFr; rfl]
    refine rC TTDfF 2 rfl ?_
    refine o_call (k_lenN (some ⟨b37, 0, none⟩) 19 19 (DefP.dFr l) (DefP.dF l) 7 (Row I3 (some ⟨b37, 0, none⟩) 19 19 (DefP.dFr l)) (fun _ _ hh => hh.rd) (DefP.dFr_len l) (ok_F hl) (by unfold DefP.dF; rfl)) V.b43  rfl (.cons (by exact rr0) .nil) rfl ?_
    rintro _ _ ⟨b53, rfl, rfl⟩
    refine rO TTDfF 9 rfl ?_
    refine o_val (v_build V.pl88 V.z88 rfl (cs := [_, _, _, _]) rfl) rfl ?_
    refine o_box rfl (cs := [_, _, _, _]) rfl rfl ?_
    intro b57
    refine rO TTDfF 2 rfl ?_
    refine o_val (v_build V.pl90 V.z90 rfl (cs := [_, _, _]) rfl) rfl ?_
    refine o_alloc V.z90 rfl ?_
    intro b11
    refine o_eff (v_storeAgg V.a90 rfl rfl (us := [_, _, _]) rfl rfl (by exact pp0) (by exact Nat.le_of_ble_eq_true rfl) rfl) ?_
    refine rO TTDfF 3 rfl ?_
    refine w_imp (A := Cel b57 88 [.slice none 0 0, .slice none 0 0, .int .i64 0, .int .i64 0]) (B := WB b57 []) (by exact rr1) (fun h hh => wb_new hh) ?_
    refine rC TTDfF 2 rfl ?_
    refine o_val (v_load V.s84 rfl (by exact mm1) rfl) rfl ?_
    refine o_call (c_put b57 [] 1 1 (by decide) (by omega) (by simp only [List.nil_append, List.length_append, BitP.lowB_len, List.length_nil]; omega)) V.b39  rfl (.cons (by exact rr0) .nil) rfl ?_
    rintro _ _ ⟨rfl, rfl⟩
    refine rO TTDfF 5 rfl ?_
    refine o_val (v_load V.s84 rfl (by exact mm1) rfl) rfl ?_
    refine o_call (c_put b57 ([] ++ BitP.lowB 1 1) 2 2 (by decide) (by omega) (by simp only [List.nil_append, List.length_append, BitP.lowB_len, List.length_nil]; omega)) V.b39  rfl (.cons (by exact rr0) .nil) rfl ?_
    rintro _ _ ⟨rfl, rfl⟩
    refine rO TTDfF 5 rfl ?_
    refine o_val (v_load V.s84 rfl (by exact mm1) rfl) rfl ?_
    refine rO TTDfF 2 rfl ?_
    refine o_val (v_to (v := .int .i64 29) (v_sub rfl rfl (wrapI (by omega) (by omega))) rfl) rfl ?_
    refine o_call (c_put b57 ([] ++ BitP.lowB 1 1 ++ BitP.lowB 2 2) 29 5 (by decide) (by omega) (by simp only [List.nil_append, List.length_append, BitP.lowB_len, List.length_nil]; omega)) V.b39  rfl (.cons (by exact rr0) .nil) rfl ?_
    rintro _ _ ⟨rfl, rfl⟩
    refine rO TTDfF 5 rfl ?_
    refine o_val (v_load V.s84 rfl (by exact mm1) rfl) rfl ?_
    refine rO TTDfF 2 rfl ?_
    refine o_val (v_to (v := .int .i64 29) (v_sub rfl rfl (wrapI (by omega) (by omega))) rfl) rfl ?_
    refine o_call (c_put b57 ([] ++ BitP.lowB 1 1 ++ BitP.lowB 2 2 ++ BitP.lowB 29 5) 29 5 (by decide) (by omega) (by simp only [List.nil_append, List.length_append, BitP.lowB_len, List.length_nil]; omega)) V.b39  rfl (.cons (by exact rr0) .nil) rfl ?_
    rintro _ _ ⟨rfl, rfl⟩
    refine rO TTDfF 3 rfl ?_
    refine w_net [⟨[], [], [11], 0, 0⟩, ⟨[0], [0], [], 0, 0⟩, ⟨[], [], [], 0, 0⟩, ⟨[2], [2], [], 0, 0⟩, ⟨[2, 3], [3], [], 0, 0⟩, ⟨[0, 1, 2, 3, 4], [1, 4], [], 0, 0⟩] [⟨fun y => WB b57 ([] ++ BitP.lowB 1 1 ++ BitP.lowB 2 2 ++ BitP.lowB 29 5 ++ BitP.lowB 29 5), none, some 5, []⟩, ⟨fun y => Cel b11 90 [.pointer (some ⟨b57, 0, none⟩), .slice (some ⟨b25, 0, none⟩) 286 286, .slice (some ⟨b30, 0, none⟩) 30 30], none, none, [1]⟩, ⟨fun y => Row I3 (some ⟨b53, 0, none⟩) 19 19 (DefP.dF l), none, none, []⟩, ⟨fun y => Row I3 (some ⟨b37, 0, none⟩) 19 19 (DefP.dFr l), none, none, []⟩, ⟨fun y => Row I3 p36 316 c36 (DefP.dAll l), none, none, []⟩, ⟨fun y => Row I3 (some ⟨b25, 0, none⟩) 286 286 (DefP.dA l), none, none, []⟩, ⟨fun y => Row I3 (some ⟨b30, 0, none⟩) 30 30 (DefP.dB l), none, none, []⟩, ⟨fun y => RT, none, none, []⟩, ⟨fun y => Row I3 (slP (y 2)) 19 (slC (y 2)) InfP.ordr, some 2, none, []⟩, ⟨fun y => WB b57 ([] ++ BitP.lowB 1 1 ++ BitP.lowB 2 2 ++ BitP.lowB 29 5 ++ BitP.lowB 29 5 ++ BitP.lowB 15 4), some 5, none, []⟩] F V.mixed (by kernel_rfl) rfl (fun _ => .refl _) (locT_0 _ (locT_0 _ (locT_0 _ (locT_0 _ (locT_0 _ (locT_0 _ (locT_0 _ (locT_0 _ (locT_1 [] rfl (by intro y y2 h; simp only [h 2 (.inl rfl)]) (locT_1 [0, 1, 2, 3, 4] rfl (by intro y y2 h; rfl) locT_nil)))))))))) ?_
    refine net_pure (fun y => [(11, _)]) (fun y => rfl) rfl rfl rfl (fun y hA L => st_v (v_fieldAddr V.f90_0 rfl) ⟨rfl, rfl⟩) (by intros; rfl) (by intro y y2 h; rfl) ?_
    refine net_read (fun y => [Cel b11 90 [.pointer (some ⟨b57, 0, none⟩), .slice (some ⟨b25, 0, none⟩) 286 286, .slice (some ⟨b30, 0, none⟩) 30 30]]) (fun y => [(79, _)]) (fun y => rfl) rfl (fun y => rfl) rfl (fun y FF hA => st_v (v_load V.s84 rfl (by exact mm0) rfl) ⟨rfl, rfl⟩) (by intros; rfl) (by intro y y2 h; rfl) ?_
    refine net_new (fun y v => .slice (slP v) 19 (slC v)) (fun y v => True) (fun y => []) (fun y => []) (fun y v => [Row I3 (slP v) 19 (slC v) InfP.ordr]) (fun y => []) (fun y => rfl) (fun y => rfl) (fun y => rfl) (fun y => rfl) (fun y FF hA => st_callSl k_orderS V.b44 rfl .nil) (by intros; rfl) (by intros; rfl) (by intros; rfl) (by intro y y2 h; simp only [h 2 (.inl rfl)]) (by intro y y2 h; rfl) ?_
    refine net_pure (fun y => [(81, _)]) (fun y => rfl) rfl rfl rfl (fun y hA L => st_v (v_len (ty' := 0) Try.underlying34 rfl) ⟨rfl, rfl⟩) (by intros; rfl) (by intro y y2 h; rfl) ?_
    refine net_pure (fun y => [(82, _)]) (fun y => rfl) rfl rfl rfl (fun y hA L => st_v (v_to (v := .int .i64 15) (v_sub rfl rfl (wrapI (by omega) (by omega))) rfl) ⟨rfl, rfl⟩) (by intros; rfl) (by intro y y2 h; rfl) ?_
    refine net_eff (fun y => [WB b57 ([] ++ BitP.lowB 1 1 ++ BitP.lowB 2 2 ++ BitP.lowB 29 5 ++ BitP.lowB 29 5)]) (fun y => []) (fun y => [WB b57 ([] ++ BitP.lowB 1 1 ++ BitP.lowB 2 2 ++ BitP.lowB 29 5 ++ BitP.lowB 29 5 ++ BitP.lowB 15 4)]) (fun y => [(80, _), (83, _)]) (fun y => rfl) (fun y => rfl) (fun y => rfl) (fun y => rfl) (fun y FF hA => st_callN (Post := [WB b57 ([] ++ BitP.lowB 1 1 ++ BitP.lowB 2 2 ++ BitP.lowB 29 5 ++ BitP.lowB 29 5 ++ BitP.lowB 15 4)]) (c_put b57 ([] ++ BitP.lowB 1 1 ++ BitP.lowB 2 2 ++ BitP.lowB 29 5 ++ BitP.lowB 29 5) 15 4 (by decide) (by omega) (by simp only [List.nil_append, List.length_append, BitP.lowB_len, List.length_nil]; omega)) V.b39 rfl (.cons (by exact rr0) .nil) (fun v G h => by rcases h with ⟨rfl, rfl⟩; exact ⟨rfl, .refl _⟩)) (by intros; rfl) (by intros; rfl) (by intro y y2 h; rfl) ?_
    refine net_nil ?_
    intro y hA
    clear hA
    refine thn_n ?_
    refine w_keep [(0, .slice q l.length cq), (5, .slice p36 316 c36), (9, .slice (some ⟨b53, 0, none⟩) 19 19), (11, .pointer (some ⟨b11, 0, none⟩))] (.cons (d := 0) rfl (.cons (d := 5) rfl (.cons (d := 9) rfl (.cons (d := 11) rfl (.nil _))))) ?_
    refine w_sub (M := Cel b11 90 [.pointer (some ⟨b57, 0, none⟩), .slice (some ⟨b25, 0, none⟩) 286 286, .slice (some ⟨b30, 0, none⟩) 30 30] :: Row I3 (some ⟨b53, 0, none⟩) 19 19 (DefP.dF l) :: Row I3 (some ⟨b37, 0, none⟩) 19 19 (DefP.dFr l) :: Row I3 p36 316 c36 (DefP.dAll l) :: Row I3 (some ⟨b25, 0, none⟩) 286 286 (DefP.dA l) :: Row I3 (some ⟨b30, 0, none⟩) 30 30 (DefP.dB l) :: RT :: Row I3 (slP (y 2)) 19 (slC (y 2)) InfP.ordr :: WB b57 ([] ++ BitP.lowB 1 1 ++ BitP.lowB 2 2 ++ BitP.lowB 29 5 ++ BitP.lowB 29 5 ++ BitP.lowB 15 4) :: F) (fun _ _ h => h) ?_
    refine w_sub (sub .nil (.keep (.keep (.skip (.keep (.keep (.keep (.keep (.skip (.keep .refl)))))))))) ?_
    simp only [List.nil_append]
    generalize (slP (y 2)) = q81
    refine rC TTDfF 3 rfl ?_
    refine o_call (k_order) V.b44  rfl .nil rfl ?_
    rintro _ _ ⟨b85, rfl, rfl⟩
    refine rO TTDfF 5 rfl ?_
    refine w_imp (A := WB b57 ([] ++ BitP.lowB 1 1 ++ BitP.lowB 2 2 ++ BitP.lowB 29 5 ++ BitP.lowB 29 5 ++ BitP.lowB 15 4)) (B := WB b57 (DefP.dH0 ++ DefP.ordB (DefP.dF l) 0)) (by exact rr7) (fun h hh => by rw [show DefP.ordB (DefP.dF l) 0 = [] from (by unfold DefP.ordB; rfl), List.append_nil, ← dh0_eq]; exact hh) ?_
    refine w_loop1 (fun (k : Nat) => [(0, .slice q l.length cq), (5, .slice p36 316 c36), (9, .slice (some ⟨b53, 0, none⟩) 19 19), (11, .pointer (some ⟨b11, 0, none⟩)), (85, .slice (some ⟨b85, 0, none⟩) 19 19), (86, .int .i64 19), (87, .int .i64 (k : Int))]) (fun (k : Nat) => WB b57 (DefP.dH0 ++ DefP.ordB (DefP.dF l) k) :: Row I3 (some ⟨b85, 0, none⟩) 19 19 InfP.ordr :: Cel b11 90 [.pointer (some ⟨b57, 0, none⟩), .slice (some ⟨b25, 0, none⟩) 286 286, .slice (some ⟨b30, 0, none⟩) 30 30] :: Row I3 (some ⟨b53, 0, none⟩) 19 19 (DefP.dF l) :: Row I3 p36 316 c36 (DefP.dAll l) :: Row I3 (some ⟨b25, 0, none⟩) 286 286 (DefP.dA l) :: Row I3 (some ⟨b30, 0, none⟩) 30 30 (DefP.dB l) :: RT :: F) (fun (k : Nat) => k ≤ 19) (fun (k : Nat) => 19 - k) (i1 (0) ?_ (.cons rfl (.cons rfl (.cons rfl (.cons rfl (.cons rfl (.cons rfl (.cons rfl (.nil _)))))))) (sub (.cons (by exact rr0) (.cons (by exact rr0) (.cons (by exact rr0) (.cons (by exact rr0) (.cons (by exact rr0) (.cons (by exact rr0) (.cons (by exact rr0) (.cons (by exact rr0) .nil)))))))) (by exact dd0))) ?_
    ·
      exact Nat.zero_le _
    intro k
    rintro hk
    refine rL TTDfF 6 rfl ?_
    refine w_condD rfl (fun h88 => ?_) (fun h88 => ?_)
    ·
      refine rC TTDfF 6 rfl ?_
      refine o_val (r_index (c := (I3)) V.sl34 rfl rfl (by exact own mm1) (by omega) (by omega)) rfl ?_
      refine o_val (r_load (c := (I3)) V.s3 rfl (by exact own mm1) (by omega) (by omega) rfl rfl) rfl ?_
      refine rO TTDfF 3 rfl ?_
      have hoo : 0 ≤ (I3.g InfP.ordr (k : Int)) ∧ (I3.g InfP.ordr (k : Int)) < 19 := InfP.ordr_at (k := k) (by omega)
      have hf7 : 0 ≤ (I3.g (DefP.dF l) (I3.g InfP.ordr (k : Int))) ∧ (I3.g (DefP.dF l) (I3.g InfP.ordr (k : Int))) ≤ 7 := DefP.dF_7 _
      refine w_net [⟨[], [], [11], 0, 0⟩, ⟨[0], [0], [], 0, 0⟩, ⟨[], [], [9], 0, 0⟩, ⟨[], [], [13], 0, 0⟩, ⟨[2, 3], [2, 3], [], 0, 0⟩, ⟨[2, 3, 4], [4], [], 0, 0⟩, ⟨[0, 1, 2, 3, 4, 5], [1, 5], [], 0, 0⟩] [⟨fun y => WB b57 (DefP.dH0 ++ DefP.ordB (DefP.dF l) k), none, some 6, []⟩, ⟨fun y => Row I3 (some ⟨b85, 0, none⟩) 19 19 InfP.ordr, none, none, []⟩, ⟨fun y => Cel b11 90 [.pointer (some ⟨b57, 0, none⟩), .slice (some ⟨b25, 0, none⟩) 286 286, .slice (some ⟨b30, 0, none⟩) 30 30], none, none, [1]⟩, ⟨fun y => Row I3 (some ⟨b53, 0, none⟩) 19 19 (DefP.dF l), none, none, [4, 5]⟩, ⟨fun y => Row I3 p36 316 c36 (DefP.dAll l), none, none, []⟩, ⟨fun y => Row I3 (some ⟨b25, 0, none⟩) 286 286 (DefP.dA l), none, none, []⟩, ⟨fun y => Row I3 (some ⟨b30, 0, none⟩) 30 30 (DefP.dB l), none, none, []⟩, ⟨fun y => RT, none, none, []⟩, ⟨fun y => WB b57 ((DefP.dH0 ++ DefP.ordB (DefP.dF l) k) ++ BitP.lowB (I3.g (DefP.dF l) (I3.g InfP.ordr (k : Int))) 3), some 6, none, []⟩] F V.mixed (by kernel_rfl) rfl (fun _ => .refl _) (locT_0 _ (locT_0 _ (locT_0 _ (locT_0 _ (locT_0 _ (locT_0 _ (locT_0 _ (locT_0 _ (locT_1 [0, 1, 2, 3, 4, 5] rfl (by intro y y2 h; rfl) locT_nil))))))))) ?_
      refine net_pure (fun y => [(11, _)]) (fun y => rfl) rfl rfl rfl (fun y hA L => st_v (v_fieldAddr V.f90_0 rfl) ⟨rfl, rfl⟩) (by intros; rfl) (by intro y y2 h; rfl) ?_
      refine net_read (fun y => [Cel b11 90 [.pointer (some ⟨b57, 0, none⟩), .slice (some ⟨b25, 0, none⟩) 286 286, .slice (some ⟨b30, 0, none⟩) 30 30]]) (fun y => [(91, _)]) (fun y => rfl) rfl (fun y => rfl) rfl (fun y FF hA => st_v (v_load V.s84 rfl (by exact mm0) rfl) ⟨rfl, rfl⟩) (by intros; rfl) (by intro y y2 h; rfl) ?_
      refine net_pure (fun y => [(9, _)]) (fun y => rfl) rfl rfl rfl (fun y hA L => st_v (v_move rfl) ⟨rfl, rfl⟩) (by intros; rfl) (by intro y y2 h; rfl) ?_
      refine net_pure (fun y => [(13, _)]) (fun y => rfl) rfl rfl rfl (fun y hA L => st_v (v_move rfl) ⟨rfl, rfl⟩) (by intros; rfl) (by intro y y2 h; rfl) ?_
      refine net_read (fun y => [Row I3 (some ⟨b53, 0, none⟩) 19 19 (DefP.dF l)]) (fun y => [(93, _), (94, _)]) (fun y => rfl) rfl (fun y => rfl) rfl (fun y FF hA => st_v (r_index (c := (I3)) V.sl34 rfl rfl (by exact own mm0) (by omega) (by omega)) ⟨rfl, rfl⟩) (by intros; rfl) (by intro y y2 h; rfl) ?_
      refine net_read (fun y => [Row I3 (some ⟨b53, 0, none⟩) 19 19 (DefP.dF l)]) (fun y => [(95, _)]) (fun y => rfl) rfl (fun y => rfl) rfl (fun y FF hA => st_v (r_load (c := (I3)) V.s3 rfl (by exact own mm0) (by omega) (by omega) rfl rfl) ⟨rfl, rfl⟩) (by intros; rfl) (by intro y y2 h; rfl) ?_
      refine net_eff (fun y => [WB b57 (DefP.dH0 ++ DefP.ordB (DefP.dF l) k)]) (fun y => []) (fun y => [WB b57 ((DefP.dH0 ++ DefP.ordB (DefP.dF l) k) ++ BitP.lowB (I3.g (DefP.dF l) (I3.g InfP.ordr (k : Int))) 3)]) (fun y => [(92, _), (96, _)]) (fun y => rfl) (fun y => rfl) (fun y => rfl) (fun y => rfl) (fun y FF hA => st_callN (Post := [WB b57 ((DefP.dH0 ++ DefP.ordB (DefP.dF l) k) ++ BitP.lowB (I3.g (DefP.dF l) (I3.g InfP.ordr (k : Int))) 3)]) (c_put b57 (DefP.dH0 ++ DefP.ordB (DefP.dF l) k) (I3.g (DefP.dF l) (I3.g InfP.ordr (k : Int))) 3 ⟨hf7.1, by omega⟩ (by omega) (by rw [List.length_append, dh0_len, DefP.ordB_len _ _ (by omega)]; omega)) V.b39 rfl (.cons (by exact rr0) .nil) (fun v G h => by rcases h with ⟨rfl, rfl⟩; exact ⟨rfl, .refl _⟩)) (by intros; rfl) (by intros; rfl) (by intro y y2 h; rfl) ?_
      refine net_nil ?_
      intro y hA
      clear hA
      show blk _ _ _ _ (Row I3 (some ⟨b85, 0, none⟩) 19 19 InfP.ordr :: Cel b11 90 [.pointer (some ⟨b57, 0, none⟩), .slice (some ⟨b25, 0, none⟩) 286 286, .slice (some ⟨b30, 0, none⟩) 30 30] :: Row I3 (some ⟨b53, 0, none⟩) 19 19 (DefP.dF l) :: Row I3 p36 316 c36 (DefP.dAll l) :: Row I3 (some ⟨b25, 0, none⟩) 286 286 (DefP.dA l) :: Row I3 (some ⟨b30, 0, none⟩) 30 30 (DefP.dB l) :: RT :: WB b57 ((DefP.dH0 ++ DefP.ordB (DefP.dF l) k) ++ BitP.lowB (I3.g (DefP.dF l) (I3.g InfP.ordr (k : Int))) 3) :: F)
      refine blk_n ?_
      refine thn_n ?_
      refine w_region ?_
      refine o_val (v_add rfl rfl (wrapI (by omega) (by omega))) rfl ?_
      refine o_val (v_move rfl) rfl ?_
      refine o_nil ?_
      rw [show (DefP.dH0 ++ DefP.ordB (DefP.dF l) k) ++ BitP.lowB (I3.g (DefP.dF l) (I3.g InfP.ordr (k : Int))) 3 = (DefP.dH0 ++ DefP.ordB (DefP.dF l) (k + 1)) from by rw [List.append_assoc]; exact congrArg _ (DefP.ordB_next _ (by omega))]
      refine j1 (k + 1) ?_ (.cons rfl (.cons rfl (.cons rfl (.cons rfl (.cons rfl (.cons rfl (.cons rfl (.nil _)))))))) (sub (.cons (by exact rr7) (.cons (by exact rr0) (.cons (by exact rr0) (.cons (by exact rr0) (.cons (by exact rr0) (.cons (by exact rr0) (.cons (by exact rr0) (.cons (by exact rr0) .nil)))))))) (by exact dd0))
      exact ⟨by omega, by omega⟩
    ·
      refine rC TTDfF 6 rfl ?_
      have hk4 : k = 19 := by omega
      rw [hk4]
      refine rC TTDfF 2 rfl ?_
      refine o_call (h_newN (some ⟨b53, 0, none⟩) 19 19 (DefP.dF l) (Row I3 (some ⟨b53, 0, none⟩) 19 19 (DefP.dF l)) (fun _ _ hh => hh.rd) hFl hgF.code) V.b45  rfl (.cons (by exact rr3) .nil) rfl ?_
      rintro _ _ ⟨hx, rfl, rfl⟩
      refine rO TTDfF 16 rfl ?_
      rw [show WB b57 (DefP.dH0 ++ DefP.ordB (DefP.dF l) 19) = WB b57 (DefP.dH0 ++ DefP.ordB (DefP.dF l) 19 ++ HuffP.bits (DefP.dF l) ((DefP.dAll l).take 0)) from by rw [List.take_zero, HuffP.bits_nil, List.append_nil]]
      refine w_loop1 (fun (k : Nat) => [(0, .slice q l.length cq), (11, .pointer (some ⟨b11, 0, none⟩)), (14, .pointer (some ⟨hx, 0, none⟩)), (104, .slice p36 316 c36), (105, .int .i64 316), (106, .int .i64 (k : Int))]) (fun (k : Nat) => WB b57 (DefP.dH0 ++ DefP.ordB (DefP.dF l) 19 ++ HuffP.bits (DefP.dF l) ((DefP.dAll l).take k)) :: HC hx (DefP.dF l) :: Cel b11 90 [.pointer (some ⟨b57, 0, none⟩), .slice (some ⟨b25, 0, none⟩) 286 286, .slice (some ⟨b30, 0, none⟩) 30 30] :: Row I3 (some ⟨b53, 0, none⟩) 19 19 (DefP.dF l) :: Row I3 p36 316 c36 (DefP.dAll l) :: Row I3 (some ⟨b25, 0, none⟩) 286 286 (DefP.dA l) :: Row I3 (some ⟨b30, 0, none⟩) 30 30 (DefP.dB l) :: RT :: F) (fun (k : Nat) => k ≤ 316) (fun (k : Nat) => 316 - k) (i1 (0) ?_ (.cons rfl (.cons rfl (.cons rfl (.cons rfl (.cons rfl (.cons rfl (.nil _))))))) (sub (.cons (by exact rr2) (.cons (by exact rr0) (.cons (by exact rr2) (.cons (by exact rr0) (.cons (by exact rr1) (.cons (by exact rr1) (.cons (by exact rr1) (.cons (by exact rr1) .nil)))))))) (by exact dd1))) ?_
      ·
        exact Nat.zero_le _
      intro k
      rintro hk
      refine rL TTDfF 6 rfl ?_
      refine w_condD rfl (fun h107 => ?_) (fun h107 => ?_)
      ·
        refine rC TTDfF 6 rfl ?_
        refine o_val (r_index (c := (I3)) V.sl34 rfl rfl (by exact own mm4) (by omega) (by omega)) rfl ?_
        refine o_val (r_load (c := (I3)) V.s3 rfl (by exact own mm4) (by omega) (by omega) rfl rfl) rfl ?_
        refine rO TTDfF 3 rfl ?_
        have hk2 : k < (DefP.dAll l).length := by omega
        have hxm : (I3.g (DefP.dAll l) (k : Int)) ∈ DefP.dAll l := by rw [show (I3.g (DefP.dAll l) (k : Int)) = (DefP.dAll l)[k] from by simp [Ec.g, hk2]]; exact List.getElem_mem hk2
        refine rC TTDfF 3 rfl ?_
        refine o_val (v_load V.s84 rfl (by exact mm2) rfl) rfl ?_
        refine o_val (v_move rfl) rfl ?_
        refine o_call (h_put_yes hx (DefP.dF l) b57 (DefP.dH0 ++ DefP.ordB (DefP.dF l) 19 ++ HuffP.bits (DefP.dF l) ((DefP.dAll l).take k)) (I3.g (DefP.dAll l) (k : Int)) hgF.code (DefP.dF_has hl hxm).2 (by rw [List.length_append, List.length_append, dh0_len, DefP.ordB_len _ _ (by omega)]; have := HuffP.bits_len hVF ((DefP.dAll l).take k); rw [List.length_take] at this; omega)) V.b46  rfl (.cons (by exact rr1) (.cons (by exact rr0) .nil)) rfl ?_
        rintro _ _ ⟨rfl, rfl⟩
        refine rOs TTDfF 7 rfl (by omega) ?_
        rw [show (DefP.dH0 ++ DefP.ordB (DefP.dF l) 19 ++ HuffP.bits (DefP.dF l) ((DefP.dAll l).take k)) ++ HuffP.wb (DefP.dF l) (I3.g (DefP.dAll l) (k : Int)) = (DefP.dH0 ++ DefP.ordB (DefP.dF l) 19 ++ HuffP.bits (DefP.dF l) ((DefP.dAll l).take (k + 1))) from by rw [List.append_assoc, show (I3.g (DefP.dAll l) (k : Int)) = (DefP.dAll l)[k] from (by simp [Ec.g, hk2]), DefP.bitsF_next hk2]]
        refine j1 (k + 1) ?_ (.cons rfl (.cons rfl (.cons rfl (.cons rfl (.cons rfl (.cons rfl (.nil _))))))) (sub (.cons (by exact rr1) (.cons (by exact rr0) (.cons (by exact rr0) (.cons (by exact rr0) (.cons (by exact rr0) (.cons (by exact rr0) (.cons (by exact rr0) (.cons (by exact rr0) .nil)))))))) (by exact dd0))
        exact ⟨by omega, by omega⟩
      ·
        refine rC TTDfF 6 rfl ?_
        have hk5 : k = 316 := by omega
        rw [hk5, List.take_of_length_le (l := DefP.dAll l) (by omega)]
        have hfx : DefP.byB (DefP.dH0 ++ DefP.ordB (DefP.dF l) 19 ++ HuffP.bits (DefP.dF l) (DefP.dAll l) ++ (DefP.toksB (DefP.dA l) (DefP.dB l) l ++ HuffP.wb (DefP.dA l) 256)) = DefP.dyS l := by unfold DefP.dyS DefP.dyB; rfl
        have hWl : ((DefP.dH0 ++ DefP.ordB (DefP.dF l) 19 ++ HuffP.bits (DefP.dF l) (DefP.dAll l) ++ (DefP.toksB (DefP.dA l) (DefP.dB l) l ++ HuffP.wb (DefP.dA l) 256))).length < 500000000 := by
          have h1 := DefP.toksB_len (HuffP.newE_vl hgA.code).1 (HuffP.newE_vl hgB.code).1 (l := l) hok
          have h2 := HuffP.lkN_le (HuffP.newE_vl hgA.code).1 256
          have h3 := HuffP.bits_len hVF (DefP.dAll l)
          simp only [List.length_append, dh0_len, DefP.ordB_len _ _ (Nat.le_refl 19), HuffP.wb_len]
          omega
        refine w_region ?_
        refine o_val (v_loadAgg V.a90 rfl (by exact mm2) (vs := [_, _, _]) rfl rfl) rfl ?_
        refine o_val (v_move rfl) rfl ?_
        refine o_call (k_writeN b57 (some ⟨b25, 0, none⟩) (DefP.dA l) 286 286 (some ⟨b30, 0, none⟩) (DefP.dB l) 30 30 q cq l (DefP.dH0 ++ DefP.ordB (DefP.dF l) 19 ++ HuffP.bits (DefP.dF l) (DefP.dAll l)) RT (Row I3 (some ⟨b25, 0, none⟩) 286 286 (DefP.dA l)) (Row I3 (some ⟨b30, 0, none⟩) 30 30 (DefP.dB l)) hRT (fun _ _ hh => hh.rd) (fun _ _ hh => hh.rd) hAl hBl hgA.code hgB.code hFi hl (by rw [List.length_append, List.length_append, dh0_len, DefP.ordB_len _ _ (by omega)]; have := HuffP.bits_len hVF (DefP.dAll l); omega)) V.b40  rfl (.cons (by exact rr0) (.cons (by exact rr6) (.cons (by exact rr4) (.cons (by exact rr4) .nil)))) rfl ?_
        rintro _ _ ⟨rfl, rfl⟩
        refine rO TTDfF 5 rfl ?_
        refine o_val (v_load V.s84 rfl (by exact mm5) rfl) rfl ?_
        refine o_call (c_outD b57 (DefP.dH0 ++ DefP.ordB (DefP.dF l) 19 ++ HuffP.bits (DefP.dF l) (DefP.dAll l) ++ (DefP.toksB (DefP.dA l) (DefP.dB l) l ++ HuffP.wb (DefP.dA l) 256)) hWl) V.b41  rfl (.cons (by exact rr0) .nil) rfl ?_
        rintro _ _ ⟨q121, c121, rfl, rfl⟩
        refine rO TTDfF 4 rfl ?_
        rw [hfx]
        exact ret_ok (G := [Row U5 q121 (DefP.dyS l).length c121 (DefP.dyS l), RT]) (res1 rfl) ⟨q121, c121, rfl, rfl⟩ (sub (.cons (by exact rr0) (.cons (by exact rr0) .nil)) (by exact dd6))
end Go.Proofs.Ythmgkggpipnalaa

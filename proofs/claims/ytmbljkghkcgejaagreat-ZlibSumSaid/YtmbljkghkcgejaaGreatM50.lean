/- Walks of functions that the law reaches, and what they lean on; no conditions. -/
import Derived.Test.YtmbljkghkcgejaaGreatM30
import Derived.Test.YtmbljkghkcgejaaGreatSl22
import Derived.KernelRfl
import Derived.Test.YtmbljkghkcgejaaGreatM46
import Derived.Test.YtmbljkghkcgejaaGreatZhU
import Derived.Test.YtmbljkghkcgejaaGreatM33
set_option linter.unusedVariables false
set_option linter.unusedSimpArgs false
set_option maxRecDepth 100000
namespace Go.Proofs.YtmbljkghkcgejaaGreat
open Go.Sl 
theorem TTZfF : okT Tryz.prog ⟨[77], [(114, 0, 0)]⟩ = true := by kernel_rfl
attribute [local irreducible] HuffP.newE HuffP.ord HuffP.cntL HuffP.words HuffP.mostL HuffP.wb HuffP.lkB HuffP.lkN HuffP.lkW DefP.toksB InfP.fixL BitP.lowB DefP.byB DefP.rarF DefP.cntA DefP.fA DefP.fB PkM.lenF HuffP.bits DefP.dA DefP.dB DefP.dF DefP.dFr DefP.cntC DefP.dAll DefP.dC0 DefP.ordB DefP.dH0 List.replicate DefP.incr
theorem k_lenN (p : Option Addr) (c n : Nat) (fr o : List Int) (most : Int) (R : HProp) (hR : ∀ w0 h, R w0 h → RdR I3 p n fr w0 h) (hn : fr.length = n) (hOk : OkL fr most) (ho : PkM.lenF fr most.toNat = o) : Ctr Tryz.prog 78 [.slice p n c, .int .i64 most] [R] (Ret fun v G => ∃ b, v = .tuple #[.slice (some ⟨b, 0, none⟩) n n, .bool true] ∧ G = [Row I3 (some ⟨b, 0, none⟩) n n o, R]) := by
  subst hn
  refine (h_lengths p c fr most R hR).mono ?_
  rintro e G ⟨v, rfl, h⟩
  rcases h with ⟨h, _⟩ | ⟨_, b, o2, rfl, hg, rfl⟩
  · exact absurd hOk h
  · have := hg.det
    rw [ho] at this
    subst this
    exact ⟨_, rfl, b, rfl, rfl⟩
theorem k_orderS : Ctr Tryz.prog 79 [] [] (Ret fun v G => ∃ p c, v = .slice p 19 c ∧ G = [Row I3 p 19 c InfP.ordr]) := by
  refine k_order.mono ?_
  rintro e G ⟨v, rfl, q, rfl, rfl⟩
  exact ⟨_, rfl, _, _, rfl, rfl⟩
theorem k_writeN (bl : Nat) (pa : Option Addr) (a : List Int) (n ca : Nat) (pd : Option Addr) (d : List Int) (m cd : Nat) (q : Option Addr) (cq : Nat) (l : List DefP.Tok) (bs : List Int) (RT RA RD : HProp) (hRT : ∀ w0 h, RT w0 h → RdR TK q l.length l w0 h) (hRA : ∀ w0 h, RA w0 h → RdR I3 pa n a w0 h) (hRD : ∀ w0 h, RD w0 h → RdR I3 pd m d w0 h) (hn : a.length = n) (hm : d.length = m) (hEa : HuffP.newE a = 0) (hEd : HuffP.newE d = 0) (hF : DefP.Fits a d l) (hl : l.length ≤ 4194304) (hb : bs.length ≤ 20000) : Ctr Tryz.prog 75 [.agg #[.pointer (some ⟨bl, 0, none⟩), .slice pa n ca, .slice pd m cd], .slice q l.length cq] [WB bl bs, RT, RA, RD] (Ret fun v G => v = .tuple #[] ∧ G = [WB bl (bs ++ (DefP.toksB a d l ++ HuffP.wb a 256)), RT, RA, RD]) := by
  subst hn; subst hm
  exact k_write bl pa a ca pd d cd q cq l bs RT RA RD hRT hRA hRD hEa hEd hF hl hb
theorem ok_A {l : List DefP.Tok} (hl : l.length ≤ 4194304) : OkL (DefP.fA l) 15 := ⟨by decide, by decide, by rw [DefP.fA_len]; decide, DefP.fA_ok hl, by have := PkM.lvs_len (DefP.fA l) (DefP.fA l).length; rw [DefP.fA_len] at *; have e : 2 ^ (15 : Int).toNat = 32768 := (by decide); omega⟩
theorem ok_B {l : List DefP.Tok} (hl : l.length ≤ 4194304) : OkL (DefP.fB l) 15 := ⟨by decide, by decide, by rw [DefP.fB_len]; decide, DefP.fB_ok hl, by have := PkM.lvs_len (DefP.fB l) (DefP.fB l).length; rw [DefP.fB_len] at *; have e : 2 ^ (15 : Int).toNat = 32768 := (by decide); omega⟩
theorem ok_F {l : List DefP.Tok} (hl : l.length ≤ 4194304) : OkL (DefP.dFr l) 7 := ⟨by decide, by decide, by rw [DefP.dFr_len]; decide, DefP.dFr_ok hl, by have := PkM.lvs_len (DefP.dFr l) (DefP.dFr l).length; rw [DefP.dFr_len] at *; have e : 2 ^ (7 : Int).toNat = 128 := (by decide); omega⟩
theorem h_newN (p : Option Addr) (c n : Nat) (ls : List Int) (R : HProp) (hR : ∀ w0 h, R w0 h → RdR I3 p n ls w0 h) (hn : ls.length = n) (hE : HuffP.newE ls = 0) : Ctr Tryz.prog 80 [.slice p n c] [R] (Ret fun v G => ∃ b, v = .tuple #[.pointer (some ⟨b, 0, none⟩), .int .i64 0] ∧ G = [HC b ls, R]) := by
  subst hn
  exact h_new_yes p c ls R hR hE
theorem dh0_eq : [] ++ BitP.lowB 1 1 ++ BitP.lowB 2 2 ++ BitP.lowB 29 5 ++ BitP.lowB 29 5 ++ BitP.lowB 15 4 = DefP.dH0 := by unfold DefP.dH0; rfl
theorem dh0_len : DefP.dH0.length = 17 := by unfold DefP.dH0; simp only [List.length_append, BitP.lowB_len]
set_option maxHeartbeats 8000000 in
theorem k_dynamic (q : Option Addr) (cq : Nat) (l : List DefP.Tok) (RT : HProp) (hRT : ∀ w0 h, RT w0 h → RdR TK q l.length l w0 h) (hok : ∀ t ∈ l, DefP.TokOk t) (hl : l.length ≤ 4194304) : Ctr Tryz.prog 61 [.slice q l.length cq] [RT] (Ret fun v G => ∃ q c, v = .slice q (DefP.dyS l).length c ∧ G = [Row U5 q (DefP.dyS l).length c (DefP.dyS l), RT]) := by
  refine spec_of [(0, _)] Tryz.func61 rfl Tryz.ntmps61 rfl rfl ?_
  intro w0 F
  have hAl := DefP.dA_len hl
  have hBl := DefP.dB_len hl
  have hFl := DefP.dF_len l
  have hLl := DefP.dAll_len hl
  have hgA := DefP.gdA hl
  have hgB := DefP.gdB hl
  have hgF := DefP.gdF l
  have hFi := DefP.dFits hok hl
  have hVF := (HuffP.newE_vl hgF.code).1
  refine rT TTZfF 8 rfl ?_
  refine o_call (k_counted q cq l RT hRT hok hl) V.b77  rfl (rz1 .nil) rfl ?_
  rintro _ _ ⟨ba, bb, rfl, rfl⟩
  refine rO TTZfF 10 rfl ?_
  refine o_call (k_lenN (some ⟨ba, 0, none⟩) 286 286 (DefP.fA l) (DefP.dA l) 15 (Row I3 (some ⟨ba, 0, none⟩) 286 286 (DefP.fA l)) (fun _ _ hh => hh.rd) (DefP.fA_len l) (ok_A hl) (by unfold DefP.dA; rfl)) V.b78  rfl (rz1 .nil) rfl ?_
  rintro _ _ ⟨b25, rfl, rfl⟩
  refine rO TTZfF 9 rfl ?_
  refine o_call (k_lenN (some ⟨bb, 0, none⟩) 30 30 (DefP.fB l) (DefP.dB l) 15 (Row I3 (some ⟨bb, 0, none⟩) 30 30 (DefP.fB l)) (fun _ _ hh => hh.rd) (DefP.fB_len l) (ok_B hl) (by unfold DefP.dB; rfl)) V.b78  rfl (.cons rr2 .nil) rfl ?_
  rintro _ _ ⟨b30, rfl, rfl⟩
  refine rO TTZfF 9 rfl ?_
  refine o_add0 (Row (I3) none 0 0 []) (Row.nil _ _ _) ?_
  refine r_append (c := (I3)) V.sl77 V.z3 rfl rfl rfl rfl rr0 (own mm3) (by omega) rfl ?_
  intro p34 c34
  refine oV (v_move rfl) ?_
  refine r_append (c := (I3)) V.sl77 V.z3 rfl rfl rfl rfl rr0 (own mm1) (by omega) rfl ?_
  intro p36 c36
  refine rO TTZfF 4 rfl ?_
  rw [show [] ++ DefP.dA l ++ DefP.dB l = DefP.dAll l from by unfold DefP.dAll; rfl]
  refine w_region ?_
  refine r_makeN 19 19 (I3) rfl rfl V.sl77 V.z3 rfl rfl rfl rfl (by omega) (by omega) rfl rfl ?_
  intro b37
  refine rO TTZfF 12 rfl ?_
  rw [show List.replicate 19 I3.d = DefP.cntC ((DefP.dAll l).take 0) DefP.dC0 from by rw [List.take_zero]; simp only [DefP.cntC]; unfold DefP.dC0; rfl]
  refine w_loop1 (fun (k : Nat) => [(0, .slice q l.length cq), (3, .slice (some ⟨b25, 0, none⟩) 286 286), (4, .slice (some ⟨b30, 0, none⟩) 30 30), (5, .slice p36 316 c36), (6, .slice (some ⟨b37, 0, none⟩) 19 19), (38, .slice p36 316 c36), (39, .int .i64 316), (40, .int .i64 (k : Int))]) (fun (k : Nat) => Row I3 (some ⟨b37, 0, none⟩) 19 19 (DefP.cntC ((DefP.dAll l).take k) DefP.dC0) :: Row I3 p36 316 c36 (DefP.dAll l) :: Row I3 (some ⟨b25, 0, none⟩) 286 286 (DefP.dA l) :: Row I3 (some ⟨b30, 0, none⟩) 30 30 (DefP.dB l) :: RT :: F) (fun (k : Nat) => k ≤ 316) (fun (k : Nat) => 316 - k) (i1 (0) ?_ (lc3 (lc5 ln)) (sub (rz2 (.cons rr2 (.cons rr0 (.cons rr2 .nil)))) dd2)) ?_
  ·
    exact Nat.zero_le _
  intro k
  rintro hk
  refine rL TTZfF 6 rfl ?_
  refine w_condD rfl (fun h41 => ?_) (fun h41 => ?_)
  ·
    refine rC TTZfF 6 rfl ?_
    refine oV (xI V.sl77 (own mm1)) ?_
    refine oV (xL V.s3 (own mm1)) ?_
    refine rO TTZfF 3 rfl ?_
    have hk2 : k < (DefP.dAll l).length := by omega
    have hxm : (I3.g (DefP.dAll l) (k : Int)) ∈ DefP.dAll l := by rw [show (I3.g (DefP.dAll l) (k : Int)) = (DefP.dAll l)[k] from by simp [Ec.g, hk2]]; exact List.getElem_mem hk2
    have hin := DefP.dAll_in hl hxm
    have hcl : (DefP.cntC ((DefP.dAll l).take k) DefP.dC0).length = 19 := (DefP.cntC_len _ _).trans (by unfold DefP.dC0; rw [List.length_replicate])
    have hv : 0 ≤ I3.g (DefP.cntC ((DefP.dAll l).take k) DefP.dC0) (I3.g (DefP.dAll l) (k : Int)) ∧ I3.g (DefP.cntC ((DefP.dAll l).take k) DefP.dC0) (I3.g (DefP.dAll l) (k : Int)) ≤ 316 := DefP.dFr_all hl _
    refine rC TTZfF 3 rfl ?_
    refine oV (xI V.sl77 (own mm0)) ?_
    refine oV (xL V.s3 (own mm0)) ?_
    refine rOs TTZfF 1 rfl (by omega) ?_
    refine oV (xI V.sl77 (own mm0)) ?_
    refine o_eff (r_store (c := (I3)) (_) V.s3 rfl rfl rfl (by exact pp0) (by omega) (by omega) rfl rfl) ?_
    refine rOs TTZfF 7 rfl (by omega) ?_
    rw [incr_row (l := (DefP.cntC ((DefP.dAll l).take k) DefP.dC0)) (l' := DefP.cntC ((DefP.dAll l).take (k + 1)) DefP.dC0) (s := (I3.g (DefP.dAll l) (k : Int))) (by rw [show (I3.g (DefP.dAll l) (k : Int)) = (DefP.dAll l)[k] from by simp [Ec.g, hk2]]; exact DefP.cntC_next hk2) rfl]
    refine j1 (k + 1) ?_ (lc3 (lc5 ln)) (sub (rz5 .nil) dd0)
    exact ⟨by omega, by omega⟩
  ·
    refine rC TTZfF 6 rfl ?_
    have hk3 : k = 316 := by omega
    rw [hk3, List.take_of_length_le (by omega), show DefP.cntC (DefP.dAll l) DefP.dC0 = DefP.dFr l from by unfold DefP.dFr; rfl]
    refine rC TTZfF 2 rfl ?_
    refine o_call (k_lenN (some ⟨b37, 0, none⟩) 19 19 (DefP.dFr l) (DefP.dF l) 7 (Row I3 (some ⟨b37, 0, none⟩) 19 19 (DefP.dFr l)) (fun _ _ hh => hh.rd) (DefP.dFr_len l) (ok_F hl) (by unfold DefP.dF; rfl)) V.b78  rfl (rz1 .nil) rfl ?_
    rintro _ _ ⟨b53, rfl, rfl⟩
    refine rO TTZfF 9 rfl ?_
    refine oV (v_build V.pl89 V.z89 rfl (cs := [_, _, _, _]) rfl) ?_
    refine o_box rfl (cs := [_, _, _, _]) rfl rfl ?_
    intro b57
    refine rO TTZfF 2 rfl ?_
    refine oV (v_build V.pl114 V.z114 rfl (cs := [_, _, _]) rfl) ?_
    refine o_alloc V.z114 rfl ?_
    intro b11
    refine o_eff (v_storeAgg V.a114 rfl rfl (us := [_, _, _]) rfl rfl (by exact pp0) (by exact Nat.le_of_ble_eq_true rfl) rfl) ?_
    refine rO TTZfF 3 rfl ?_
    refine w_imp (A := Cel b57 89 [.slice none 0 0, .slice none 0 0, .int .i64 0, .int .i64 0]) (B := WB b57 []) rr1 (fun h hh => wb_new hh) ?_
    refine rC TTZfF 2 rfl ?_
    refine oV (v_load V.s71 rfl mm1 rfl) ?_
    refine o_call (c_put b57 [] 1 1 (by decide) (by omega) (by simp only [List.nil_append, List.length_append, BitP.lowB_len, List.length_nil]; omega)) V.b74  rfl (rz1 .nil) rfl ?_
    rintro _ _ ⟨rfl, rfl⟩
    refine rO TTZfF 5 rfl ?_
    refine oV (v_load V.s71 rfl mm1 rfl) ?_
    refine o_call (c_put b57 ([] ++ BitP.lowB 1 1) 2 2 (by decide) (by omega) (by simp only [List.nil_append, List.length_append, BitP.lowB_len, List.length_nil]; omega)) V.b74  rfl (rz1 .nil) rfl ?_
    rintro _ _ ⟨rfl, rfl⟩
    refine rO TTZfF 5 rfl ?_
    refine oV (v_load V.s71 rfl mm1 rfl) ?_
    refine rO TTZfF 2 rfl ?_
    refine oV (v_to (v := .int .i64 29) (v_sub rfl rfl wI) rfl) ?_
    refine o_call (c_put b57 ([] ++ BitP.lowB 1 1 ++ BitP.lowB 2 2) 29 5 (by decide) (by omega) (by simp only [List.nil_append, List.length_append, BitP.lowB_len, List.length_nil]; omega)) V.b74  rfl (rz1 .nil) rfl ?_
    rintro _ _ ⟨rfl, rfl⟩
    refine rO TTZfF 5 rfl ?_
    refine oV (v_load V.s71 rfl mm1 rfl) ?_
    refine rO TTZfF 2 rfl ?_
    refine oV (v_to (v := .int .i64 29) (v_sub rfl rfl wI) rfl) ?_
    refine o_call (c_put b57 ([] ++ BitP.lowB 1 1 ++ BitP.lowB 2 2 ++ BitP.lowB 29 5) 29 5 (by decide) (by omega) (by simp only [List.nil_append, List.length_append, BitP.lowB_len, List.length_nil]; omega)) V.b74  rfl (rz1 .nil) rfl ?_
    rintro _ _ ⟨rfl, rfl⟩
    refine rO TTZfF 3 rfl ?_
    refine w_net [pz 0 [] [11], pz 1 [0] [], pz 0 [] [], pz 4 [2] [], pz 12 [3] [], pz 31 [1, 4] []] [⟨fun y => WB b57 ([] ++ BitP.lowB 1 1 ++ BitP.lowB 2 2 ++ BitP.lowB 29 5 ++ BitP.lowB 29 5), none, some 5, []⟩, ⟨fun y => Cel b11 114 [.pointer (some ⟨b57, 0, none⟩), .slice (some ⟨b25, 0, none⟩) 286 286, .slice (some ⟨b30, 0, none⟩) 30 30], none, none, [1]⟩, ⟨fun y => Row I3 (some ⟨b53, 0, none⟩) 19 19 (DefP.dF l), none, none, []⟩, ⟨fun y => Row I3 (some ⟨b37, 0, none⟩) 19 19 (DefP.dFr l), none, none, []⟩, ⟨fun y => Row I3 p36 316 c36 (DefP.dAll l), none, none, []⟩, ⟨fun y => Row I3 (some ⟨b25, 0, none⟩) 286 286 (DefP.dA l), none, none, []⟩, ⟨fun y => Row I3 (some ⟨b30, 0, none⟩) 30 30 (DefP.dB l), none, none, []⟩, ⟨fun y => RT, none, none, []⟩, ⟨fun y => Row I3 (slP (y 2)) 19 (slC (y 2)) InfP.ordr, some 2, none, []⟩, ⟨fun y => WB b57 ([] ++ BitP.lowB 1 1 ++ BitP.lowB 2 2 ++ BitP.lowB 29 5 ++ BitP.lowB 29 5 ++ BitP.lowB 15 4), some 5, none, []⟩] F V.mixed (by kernel_rfl) rfl (fun _ => .refl _) (locT_0 _ (locT_0 _ (locT_0 _ (locT_0 _ (locT_0 _ (locT_0 _ (locT_0 _ (locT_0 _ (locT_1 _ rfl (by intro y y2 h; simp only [h 2 (.inl rfl)]) (locT_1 _ rfl (by intro y y2 h; rfl) locT_nil)))))))))) ?_
    refine nG V.f114_0 ?_
    refine nR (fun y FF hA => v_load V.s71 rfl mm0 rfl) ?_
    refine net_new (fun y v => .slice (slP v) 19 (slC v)) (fun y v => True) _ _ (fun y v => [Row I3 (slP v) 19 (slC v) InfP.ordr]) _ (fun y => rfl) (fun y => rfl) (fun y => rfl) (fun y => rfl) (fun y FF hA => st_callSl k_orderS V.b79 rfl .nil) (by intros; rfl) (by intros; rfl) (by intros; rfl) (by intro y y2 h; simp only [h 2 (.inl rfl)]) (by intro y y2 h; rfl) ?_
    refine nV (fun y hA L => v_len (ty' := 0) Tryz.underlying77 rfl) ?_
    refine nV (fun y hA L => v_to (v := .int .i64 15) (v_sub rfl rfl wI) rfl) ?_
    refine nE (fun y FF hA => st_callN (Post := [WB b57 ([] ++ BitP.lowB 1 1 ++ BitP.lowB 2 2 ++ BitP.lowB 29 5 ++ BitP.lowB 29 5 ++ BitP.lowB 15 4)]) (c_put b57 ([] ++ BitP.lowB 1 1 ++ BitP.lowB 2 2 ++ BitP.lowB 29 5 ++ BitP.lowB 29 5) 15 4 (by decide) (by omega) (by simp only [List.nil_append, List.length_append, BitP.lowB_len, List.length_nil]; omega)) V.b74 rfl (rz1 .nil) (fun v G h => by rcases h with ⟨rfl, rfl⟩; exact ⟨rfl, .refl _⟩)) ?_
    refine net_nil ?_
    intro y hA
    clear hA
    refine thn_n ?_
    refine w_keep [(0, .slice q l.length cq), (5, .slice p36 316 c36), (9, .slice (some ⟨b53, 0, none⟩) 19 19), (11, .pointer (some ⟨b11, 0, none⟩))] (.cons (d := 0) rfl (.cons (d := 5) rfl (.cons (d := 9) rfl (.cons (d := 11) rfl (.nil _))))) ?_
    refine w_sub (M := Cel b11 114 [.pointer (some ⟨b57, 0, none⟩), .slice (some ⟨b25, 0, none⟩) 286 286, .slice (some ⟨b30, 0, none⟩) 30 30] :: Row I3 (some ⟨b53, 0, none⟩) 19 19 (DefP.dF l) :: Row I3 (some ⟨b37, 0, none⟩) 19 19 (DefP.dFr l) :: Row I3 p36 316 c36 (DefP.dAll l) :: Row I3 (some ⟨b25, 0, none⟩) 286 286 (DefP.dA l) :: Row I3 (some ⟨b30, 0, none⟩) 30 30 (DefP.dB l) :: RT :: Row I3 (slP (y 2)) 19 (slC (y 2)) InfP.ordr :: WB b57 ([] ++ BitP.lowB 1 1 ++ BitP.lowB 2 2 ++ BitP.lowB 29 5 ++ BitP.lowB 29 5 ++ BitP.lowB 15 4) :: F) (fun _ _ h => h) ?_
    refine w_sub (sub .nil (.keep (.keep (.skip (.keep (.keep (.keep (.keep (.skip (.keep .refl)))))))))) ?_
    simp only [List.nil_append]
    generalize (slP (y 2)) = q81
    refine rC TTZfF 3 rfl ?_
    refine o_call (k_order) V.b79  rfl .nil rfl ?_
    rintro _ _ ⟨b85, rfl, rfl⟩
    refine rO TTZfF 5 rfl ?_
    refine w_imp (A := WB b57 ([] ++ BitP.lowB 1 1 ++ BitP.lowB 2 2 ++ BitP.lowB 29 5 ++ BitP.lowB 29 5 ++ BitP.lowB 15 4)) (B := WB b57 (DefP.dH0 ++ DefP.ordB (DefP.dF l) 0)) (by exact rr7) (fun h hh => by rw [show DefP.ordB (DefP.dF l) 0 = [] from (by unfold DefP.ordB; rfl), List.append_nil, ← dh0_eq]; exact hh) ?_
    refine w_loop1 (fun (k : Nat) => [(0, .slice q l.length cq), (5, .slice p36 316 c36), (9, .slice (some ⟨b53, 0, none⟩) 19 19), (11, .pointer (some ⟨b11, 0, none⟩)), (85, .slice (some ⟨b85, 0, none⟩) 19 19), (86, .int .i64 19), (87, .int .i64 (k : Int))]) (fun (k : Nat) => WB b57 (DefP.dH0 ++ DefP.ordB (DefP.dF l) k) :: Row I3 (some ⟨b85, 0, none⟩) 19 19 InfP.ordr :: Cel b11 114 [.pointer (some ⟨b57, 0, none⟩), .slice (some ⟨b25, 0, none⟩) 286 286, .slice (some ⟨b30, 0, none⟩) 30 30] :: Row I3 (some ⟨b53, 0, none⟩) 19 19 (DefP.dF l) :: Row I3 p36 316 c36 (DefP.dAll l) :: Row I3 (some ⟨b25, 0, none⟩) 286 286 (DefP.dA l) :: Row I3 (some ⟨b30, 0, none⟩) 30 30 (DefP.dB l) :: RT :: F) (fun (k : Nat) => k ≤ 19) (fun (k : Nat) => 19 - k) (i1 (0) ?_ (lc2 (lc5 ln)) (sub (rz3 (rz5 .nil)) dd0)) ?_
    ·
      exact Nat.zero_le _
    intro k
    rintro hk
    refine rL TTZfF 6 rfl ?_
    refine w_condD rfl (fun h88 => ?_) (fun h88 => ?_)
    ·
      refine rC TTZfF 6 rfl ?_
      refine oV (xI V.sl77 (own mm1)) ?_
      refine oV (xL V.s3 (own mm1)) ?_
      refine rO TTZfF 3 rfl ?_
      have hoo : 0 ≤ (I3.g InfP.ordr (k : Int)) ∧ (I3.g InfP.ordr (k : Int)) < 19 := InfP.ordr_at (k := k) (by omega)
      have hf7 : 0 ≤ (I3.g (DefP.dF l) (I3.g InfP.ordr (k : Int))) ∧ (I3.g (DefP.dF l) (I3.g InfP.ordr (k : Int))) ≤ 7 := DefP.dF_7 _
      refine wN [pz 0 [] [11], pz 1 [0] [], pz 0 [] [9], pz 0 [] [13], pz 12 [2, 3] [], pz 28 [4] [], pz 63 [1, 5] []] [⟨fun y => WB b57 (DefP.dH0 ++ DefP.ordB (DefP.dF l) k), none, some 6, []⟩, ⟨fun y => Row I3 (some ⟨b85, 0, none⟩) 19 19 InfP.ordr, none, none, []⟩, ⟨fun y => Cel b11 114 [.pointer (some ⟨b57, 0, none⟩), .slice (some ⟨b25, 0, none⟩) 286 286, .slice (some ⟨b30, 0, none⟩) 30 30], none, none, [1]⟩, ⟨fun y => Row I3 (some ⟨b53, 0, none⟩) 19 19 (DefP.dF l), none, none, [4, 5]⟩, ⟨fun y => Row I3 p36 316 c36 (DefP.dAll l), none, none, []⟩, ⟨fun y => Row I3 (some ⟨b25, 0, none⟩) 286 286 (DefP.dA l), none, none, []⟩, ⟨fun y => Row I3 (some ⟨b30, 0, none⟩) 30 30 (DefP.dB l), none, none, []⟩, ⟨fun y => RT, none, none, []⟩, ⟨fun y => WB b57 ((DefP.dH0 ++ DefP.ordB (DefP.dF l) k) ++ BitP.lowB (I3.g (DefP.dF l) (I3.g InfP.ordr (k : Int))) 3), some 6, none, []⟩] F V.mixed ?_
      refine nG V.f114_0 ?_
      refine nR (fun y FF hA => v_load V.s71 rfl mm0 rfl) ?_
      iterate 2 refine nM ?_
      refine nR (fun y FF hA => xI V.sl77 (own mm0)) ?_
      refine nR (fun y FF hA => xL V.s3 (own mm0)) ?_
      refine nE (fun y FF hA => st_callN (Post := [WB b57 ((DefP.dH0 ++ DefP.ordB (DefP.dF l) k) ++ BitP.lowB (I3.g (DefP.dF l) (I3.g InfP.ordr (k : Int))) 3)]) (c_put b57 (DefP.dH0 ++ DefP.ordB (DefP.dF l) k) (I3.g (DefP.dF l) (I3.g InfP.ordr (k : Int))) 3 ⟨hf7.1, by omega⟩ (by omega) (by rw [List.length_append, dh0_len, DefP.ordB_len _ _ (by omega)]; omega)) V.b74 rfl (rz1 .nil) (fun v G h => by rcases h with ⟨rfl, rfl⟩; exact ⟨rfl, .refl _⟩)) ?_
      refine net_nil ?_
      intro y hA
      clear hA
      show blk _ _ _ _ (Row I3 (some ⟨b85, 0, none⟩) 19 19 InfP.ordr :: Cel b11 114 [.pointer (some ⟨b57, 0, none⟩), .slice (some ⟨b25, 0, none⟩) 286 286, .slice (some ⟨b30, 0, none⟩) 30 30] :: Row I3 (some ⟨b53, 0, none⟩) 19 19 (DefP.dF l) :: Row I3 p36 316 c36 (DefP.dAll l) :: Row I3 (some ⟨b25, 0, none⟩) 286 286 (DefP.dA l) :: Row I3 (some ⟨b30, 0, none⟩) 30 30 (DefP.dB l) :: RT :: WB b57 ((DefP.dH0 ++ DefP.ordB (DefP.dF l) k) ++ BitP.lowB (I3.g (DefP.dF l) (I3.g InfP.ordr (k : Int))) 3) :: F)
      refine blk_n ?_
      refine thn_n ?_
      refine w_region ?_
      refine oV (v_add rfl rfl wI) ?_
      refine oV (v_move rfl) ?_
      refine o_nil ?_
      rw [show (DefP.dH0 ++ DefP.ordB (DefP.dF l) k) ++ BitP.lowB (I3.g (DefP.dF l) (I3.g InfP.ordr (k : Int))) 3 = (DefP.dH0 ++ DefP.ordB (DefP.dF l) (k + 1)) from by rw [List.append_assoc]; exact congrArg _ (DefP.ordB_next _ (by omega))]
      refine j1 (k + 1) ?_ (lc2 (lc5 ln)) (sub (.cons rr7 (rz2 (rz5 .nil))) dd0)
      exact ⟨by omega, by omega⟩
    ·
      refine rC TTZfF 6 rfl ?_
      have hk4 : k = 19 := by omega
      rw [hk4]
      refine rC TTZfF 2 rfl ?_
      refine o_call (h_newN (some ⟨b53, 0, none⟩) 19 19 (DefP.dF l) (Row I3 (some ⟨b53, 0, none⟩) 19 19 (DefP.dF l)) (fun _ _ hh => hh.rd) hFl hgF.code) V.b80  rfl (.cons rr3 .nil) rfl ?_
      rintro _ _ ⟨hx, rfl, rfl⟩
      refine rO TTZfF 16 rfl ?_
      rw [show WB b57 (DefP.dH0 ++ DefP.ordB (DefP.dF l) 19) = WB b57 (DefP.dH0 ++ DefP.ordB (DefP.dF l) 19 ++ HuffP.bits (DefP.dF l) ((DefP.dAll l).take 0)) from by rw [List.take_zero, HuffP.bits_nil, List.append_nil]]
      refine w_loop1 (fun (k : Nat) => [(0, .slice q l.length cq), (11, .pointer (some ⟨b11, 0, none⟩)), (14, .pointer (some ⟨hx, 0, none⟩)), (104, .slice p36 316 c36), (105, .int .i64 316), (106, .int .i64 (k : Int))]) (fun (k : Nat) => WB b57 (DefP.dH0 ++ DefP.ordB (DefP.dF l) 19 ++ HuffP.bits (DefP.dF l) ((DefP.dAll l).take k)) :: HC hx (DefP.dF l) :: Cel b11 114 [.pointer (some ⟨b57, 0, none⟩), .slice (some ⟨b25, 0, none⟩) 286 286, .slice (some ⟨b30, 0, none⟩) 30 30] :: Row I3 (some ⟨b53, 0, none⟩) 19 19 (DefP.dF l) :: Row I3 p36 316 c36 (DefP.dAll l) :: Row I3 (some ⟨b25, 0, none⟩) 286 286 (DefP.dA l) :: Row I3 (some ⟨b30, 0, none⟩) 30 30 (DefP.dB l) :: RT :: F) (fun (k : Nat) => k ≤ 316) (fun (k : Nat) => 316 - k) (i1 (0) ?_ (lc1 (lc5 ln)) (sub (.cons rr2 (rz1 (.cons rr2 (.cons rr0 (.cons rr1 (.cons rr1 (.cons rr1 (.cons rr1 .nil)))))))) dd1)) ?_
      ·
        exact Nat.zero_le _
      intro k
      rintro hk
      refine rL TTZfF 6 rfl ?_
      refine w_condD rfl (fun h107 => ?_) (fun h107 => ?_)
      ·
        refine rC TTZfF 6 rfl ?_
        refine oV (xI V.sl77 (own mm4)) ?_
        refine oV (xL V.s3 (own mm4)) ?_
        refine rO TTZfF 3 rfl ?_
        have hk2 : k < (DefP.dAll l).length := by omega
        have hxm : (I3.g (DefP.dAll l) (k : Int)) ∈ DefP.dAll l := by rw [show (I3.g (DefP.dAll l) (k : Int)) = (DefP.dAll l)[k] from by simp [Ec.g, hk2]]; exact List.getElem_mem hk2
        refine rC TTZfF 3 rfl ?_
        refine oV (v_load V.s71 rfl mm2 rfl) ?_
        refine oV (v_move rfl) ?_
        refine o_call (h_put_yes hx (DefP.dF l) b57 (DefP.dH0 ++ DefP.ordB (DefP.dF l) 19 ++ HuffP.bits (DefP.dF l) ((DefP.dAll l).take k)) (I3.g (DefP.dAll l) (k : Int)) hgF.code (DefP.dF_has hl hxm).2 (by rw [List.length_append, List.length_append, dh0_len, DefP.ordB_len _ _ (by omega)]; have := HuffP.bits_len hVF ((DefP.dAll l).take k); rw [List.length_take] at this; omega)) V.b81  rfl (.cons rr1 (rz1 .nil)) rfl ?_
        rintro _ _ ⟨rfl, rfl⟩
        refine rOs TTZfF 7 rfl (by omega) ?_
        rw [show (DefP.dH0 ++ DefP.ordB (DefP.dF l) 19 ++ HuffP.bits (DefP.dF l) ((DefP.dAll l).take k)) ++ HuffP.wb (DefP.dF l) (I3.g (DefP.dAll l) (k : Int)) = (DefP.dH0 ++ DefP.ordB (DefP.dF l) 19 ++ HuffP.bits (DefP.dF l) ((DefP.dAll l).take (k + 1))) from by rw [List.append_assoc, show (I3.g (DefP.dAll l) (k : Int)) = (DefP.dAll l)[k] from (by simp [Ec.g, hk2]), DefP.bitsF_next hk2]]
        refine j1 (k + 1) ?_ (lc1 (lc5 ln)) (sub (.cons rr1 (rz2 (rz5 .nil))) dd0)
        exact ⟨by omega, by omega⟩
      ·
        refine rC TTZfF 6 rfl ?_
        have hk5 : k = 316 := by omega
        rw [hk5, List.take_of_length_le (l := DefP.dAll l) (by omega)]
        have hfx : DefP.byB (DefP.dH0 ++ DefP.ordB (DefP.dF l) 19 ++ HuffP.bits (DefP.dF l) (DefP.dAll l) ++ (DefP.toksB (DefP.dA l) (DefP.dB l) l ++ HuffP.wb (DefP.dA l) 256)) = DefP.dyS l := by unfold DefP.dyS DefP.dyB; rfl
        have hWl : ((DefP.dH0 ++ DefP.ordB (DefP.dF l) 19 ++ HuffP.bits (DefP.dF l) (DefP.dAll l) ++ (DefP.toksB (DefP.dA l) (DefP.dB l) l ++ HuffP.wb (DefP.dA l) 256))).length < 500000000 := by
          have h1 := DefP.toksB_len (HuffP.newE_vl hgA.code).1 (HuffP.newE_vl hgB.code).1 (l := l) hok
          have h2 := HuffP.lkN_le (HuffP.newE_vl hgA.code).1 256
          have h3 := HuffP.bits_len hVF (DefP.dAll l)
          simp only [List.length_append, dh0_len, DefP.ordB_len _ _ (Nat.le_refl 19), HuffP.wb_len]
          omega
        refine w_region ?_
        refine oV (v_loadAgg V.a114 rfl mm2 (vs := [_, _, _]) rfl rfl) ?_
        refine oV (v_move rfl) ?_
        refine o_call (k_writeN b57 (some ⟨b25, 0, none⟩) (DefP.dA l) 286 286 (some ⟨b30, 0, none⟩) (DefP.dB l) 30 30 q cq l (DefP.dH0 ++ DefP.ordB (DefP.dF l) 19 ++ HuffP.bits (DefP.dF l) (DefP.dAll l)) RT (Row I3 (some ⟨b25, 0, none⟩) 286 286 (DefP.dA l)) (Row I3 (some ⟨b30, 0, none⟩) 30 30 (DefP.dB l)) hRT (fun _ _ hh => hh.rd) (fun _ _ hh => hh.rd) hAl hBl hgA.code hgB.code hFi hl (by rw [List.length_append, List.length_append, dh0_len, DefP.ordB_len _ _ (by omega)]; have := HuffP.bits_len hVF (DefP.dAll l); omega)) V.b75  rfl (rz1 (.cons rr6 (.cons rr4 (.cons rr4 .nil)))) rfl ?_
        rintro _ _ ⟨rfl, rfl⟩
        refine rO TTZfF 5 rfl ?_
        refine oV (v_load V.s71 rfl mm5 rfl) ?_
        refine o_call (c_outD b57 (DefP.dH0 ++ DefP.ordB (DefP.dF l) 19 ++ HuffP.bits (DefP.dF l) (DefP.dAll l) ++ (DefP.toksB (DefP.dA l) (DefP.dB l) l ++ HuffP.wb (DefP.dA l) 256)) hWl) V.b76  rfl (rz1 .nil) rfl ?_
        rintro _ _ ⟨q121, c121, rfl, rfl⟩
        refine rO TTZfF 4 rfl ?_
        rw [hfx]
        exact ret_ok (res1 rfl) ⟨q121, c121, rfl, rfl⟩ (sub (rz2 .nil) dd6)
end Go.Proofs.YtmbljkghkcgejaaGreat
namespace Go.Proofs.YtmbljkghkcgejaaGreat
open Go.Sl 
theorem TTZfG : okT Tryz.prog ⟨[22, 30], []⟩ = true := by kernel_rfl
attribute [local irreducible] DefP.stF DefP.fxS DefP.dyS DefP.toks DefP.sN DefP.shF
abbrev S8 : Ec Sx := ⟨22, 1, fun x => [.slice x.p x.n x.c], ⟨none, 0, 0⟩, fun _ => rfl, fun _ => rfl⟩
theorem tri_g {pa pb pd : Option Addr} {ca cb cd : Nat} {n : Nat → Nat} {n1 n2 k : Nat} (e1 : n 1 = n1) (e2 : n 2 = n2) (hk : k < 2) : S8.g [Sx.mk pb n1 cb, Sx.mk pd n2 cd] (k : Int) = Sx.mk (DefP.tri pa pb pd (k + 1)) (n (k + 1)) (DefP.tri ca cb cd (k + 1)) := by
  subst e1; subst e2
  have : k = 0 ∨ k = 1 := by omega
  rcases this with rfl | rfl <;> rfl
theorem sN_0 (B : List Int) : DefP.sN B 0 = (DefP.stF B).length := by unfold DefP.sN; rfl
theorem sN_1 (B : List Int) : DefP.sN B 1 = (DefP.fxS (DefP.toks B)).length := by unfold DefP.sN; rfl
theorem sN_2 (B : List Int) : DefP.sN B 2 = (DefP.dyS (DefP.toks B)).length := by unfold DefP.sN; rfl
theorem sN_bd {B : List Int} {N : Nat} (h0 : (DefP.stF B).length ≤ N) (h1 : (DefP.fxS (DefP.toks B)).length ≤ N) (h2 : (DefP.dyS (DefP.toks B)).length ≤ N) {j : Nat} (h : j ≤ 2) : DefP.sN B j ≤ N := by
  rcases DefP.le2 h with rfl | rfl | rfl
  · rw [sN_0]; exact h0
  · rw [sN_1]; exact h1
  · rw [sN_2]; exact h2
set_option maxHeartbeats 4000000 in
theorem k_shortest (p : Option Addr) (c : Nat) (B : List Int) (R : HProp) (hR : ∀ w0 h, R w0 h → RdR U5 p B.length B w0 h) (hB : BitP.Byt B) (hl : B.length ≤ 4194304) (hcap : B.length ≤ c) : Ctr Tryz.prog 49 [.slice p B.length c] [R] (Ret fun v G => ∃ q cq, v = .slice q (DefP.shF B).length cq ∧ G = [Row U5 q (DefP.shF B).length cq (DefP.shF B), R]) := by
  refine spec_of [(0, _)] Tryz.func49 rfl Tryz.ntmps49 rfl rfl ?_
  intro w0 F
  have hta := DefP.toks_at B
  have hok := hta.ok hB
  have htl : (DefP.toks B).length ≤ B.length := DefP.toks_le hB
  have hs0 := DefP.stF_len hl
  have hs1 := DefP.fxS_len hok (by omega)
  have hs2 := DefP.dyS_len hok (by omega)
  have hsb : ∀ j, j ≤ 2 → DefP.sN B j ≤ 300000000 := fun j hj => sN_bd (by omega) (by omega) (by omega) hj
  refine rT TTZfG 8 rfl ?_
  refine o_call (f_tokens p c B R hR hB hl) V.b58  rfl (rz1 .nil) rfl ?_
  rintro _ _ ⟨q8, c8, rfl, rfl⟩
  refine rO TTZfG 6 rfl ?_
  refine o_call (k_stored p c B R hR hl hcap) V.b59  rfl (.cons rr1 .nil) rfl ?_
  rintro _ _ ⟨q10, c10, rfl, rfl⟩
  refine rO TTZfG 7 rfl ?_
  refine o_call (k_fixed q8 c8 (DefP.toks B) (Row TK q8 (DefP.toks B).length c8 (DefP.toks B)) (fun _ _ hh => hh.rd) hok (by omega)) V.b60  rfl (.cons rr2 .nil) rfl ?_
  rintro _ _ ⟨q12, c12, rfl, rfl⟩
  refine oV (v_move rfl) ?_
  refine o_call (k_dynamic q8 c8 (DefP.toks B) (Row TK q8 (DefP.toks B).length c8 (DefP.toks B)) (fun _ _ hh => hh.rd) hok (by omega)) V.b61  rfl (.cons rr1 .nil) rfl ?_
  rintro _ _ ⟨q14, c14, rfl, rfl⟩
  refine r_build (S8) [Sx.mk q12 (DefP.fxS (DefP.toks B)).length c12, Sx.mk q14 (DefP.dyS (DefP.toks B)).length c14] V.sl30 V.z22 rfl rfl rfl rfl rfl rfl ?_
  intro b15
  refine rO TTZfG 5 rfl ?_
  rw [show ((4 : Nat), Value.slice q10 (DefP.stF B).length c10) = (4, .slice (DefP.tri q10 q12 q14 (DefP.bi (DefP.sN B) 0)) (DefP.sN B (DefP.bi (DefP.sN B) 0)) (DefP.tri c10 c12 c14 (DefP.bi (DefP.sN B) 0))) from by rw [show DefP.bi (DefP.sN B) 0 = 0 from rfl, sN_0]; rfl]
  refine w_loop1 (fun (k : Nat) => [(4, .slice (DefP.tri q10 q12 q14 (DefP.bi (DefP.sN B) k)) (DefP.sN B (DefP.bi (DefP.sN B) k)) (DefP.tri c10 c12 c14 (DefP.bi (DefP.sN B) k))), (15, .slice (some ⟨b15, 0, none⟩) 2 2), (16, .int .i64 2), (17, .int .i64 (k : Int))]) (fun (k : Nat) => Row S8 (some ⟨b15, 0, none⟩) 2 2 [Sx.mk q12 (DefP.fxS (DefP.toks B)).length c12, Sx.mk q14 (DefP.dyS (DefP.toks B)).length c14] :: Row U5 q14 (DefP.dyS (DefP.toks B)).length c14 (DefP.dyS (DefP.toks B)) :: Row U5 q12 (DefP.fxS (DefP.toks B)).length c12 (DefP.fxS (DefP.toks B)) :: Row TK q8 (DefP.toks B).length c8 (DefP.toks B) :: Row U5 q10 (DefP.stF B).length c10 (DefP.stF B) :: R :: F) (fun (k : Nat) => k ≤ 2) (fun (k : Nat) => 2 - k) (i1 (0) ?_ (lc4 ln) (sub (rz2 (.cons rr1 (.cons rr0 (.cons rr0 (.cons rr0 .nil))))) dd0)) ?_
  ·
    exact Nat.zero_le _
  intro k
  rintro hk
  refine rL TTZfG 6 rfl ?_
  refine w_condD rfl (fun h18 => ?_) (fun h18 => ?_)
  ·
    refine rC TTZfG 6 rfl ?_
    refine oV (xI V.sl30 (own mm0)) ?_
    refine oV (xL V.s22 (own mm0)) ?_
    rw [tri_g (pa := q10) (ca := c10) (n := DefP.sN B) (sN_1 B) (sN_2 B) (show k < 2 by omega)]
    dsimp only
    have hn1 := hsb (k + 1) (by omega)
    have hbl := DefP.bi_le (DefP.sN B) k
    have hn2 := hsb (DefP.bi (DefP.sN B) k) (by omega)
    refine rO TTZfG 12 rfl ?_
    refine w_condD rfl (fun h25 => ?_) (fun h25 => ?_)
    ·
      refine rCs TTZfG 10 rfl (by omega) ?_
      (rw [← DefP.bi_yes (n := DefP.sN B) (k := k) (by omega)]; exact j1 (k + 1) ⟨by omega, by omega⟩ (lc4 ln) (sub (rz1 (rz5 .nil)) dd0))
    ·
      refine rCs TTZfG 7 rfl (by omega) ?_
      (rw [← DefP.bi_no (n := DefP.sN B) (k := k) (by omega)]; exact j1 (k + 1) ⟨by omega, by omega⟩ (lc4 ln) (sub (rz1 (rz5 .nil)) dd0))
  ·
    refine rC TTZfG 6 rfl ?_
    obtain rfl : k = 2 := by omega
    refine rC TTZfG 6 rfl ?_
    have hsh : DefP.shF B = DefP.tri (DefP.stF B) (DefP.fxS (DefP.toks B)) (DefP.dyS (DefP.toks B)) (DefP.bi (DefP.sN B) 2) := by unfold DefP.shF; rfl
    rcases DefP.le2 (DefP.bi_le (DefP.sN B) 2) with hb | hb | hb
    · rw [hb, sN_0]
      rw [hb] at hsh
      have hsh2 : DefP.shF B = _ := hsh
      rw [hsh2]
      exact ret_ok (res1 rfl) ⟨q10, c10, rfl, rfl⟩ (sub (.cons rr4 (.cons rr4 .nil)) dd4)
    · rw [hb, sN_1]
      rw [hb] at hsh
      have hsh2 : DefP.shF B = _ := hsh
      rw [hsh2]
      exact ret_ok (res1 rfl) ⟨q12, c12, rfl, rfl⟩ (sub (.cons rr2 (.cons rr4 .nil)) dd4)
    · rw [hb, sN_2]
      rw [hb] at hsh
      have hsh2 : DefP.shF B = _ := hsh
      rw [hsh2]
      exact ret_ok (res1 rfl) ⟨q14, c14, rfl, rfl⟩ (sub (.cons rr1 (.cons rr4 .nil)) dd4)
end Go.Proofs.YtmbljkghkcgejaaGreat
namespace Go.Proofs.YtmbljkghkcgejaaGreat
open Go.Sl 
theorem TTZfH : okT Tryz.prog ⟨[22], [(85, 0, 0), (85, 1, 1), (85, 2, 2), (85, 3, 3)]⟩ = true := by kernel_rfl
attribute [local irreducible] DefP.shF
structure Dv where
 p1 : Option Addr
 n1 : Nat
 c1 : Nat
 t : Int
 p2 : Option Addr
 c2 : Nat
def DN (b : Nat) (B : List Int) (t : Nat) : HProp := fun w0 h => ∃ i : Lv, True ∧ sats w0 [Cel b 85 [.slice i.p1 B.length i.c1, .slice none 0 0, .int .i64 (t : Int), .bool false], Row U5 i.p1 B.length i.c1 B] h
def DD (b : Nat) (z : List Int) : HProp := fun w0 h => ∃ i : Dv, True ∧ sats w0 [Cel b 85 [.slice i.p1 i.n1 i.c1, .slice i.p2 z.length i.c2, .int .i64 i.t, .bool true], Row U5 i.p2 z.length i.c2 z] h
theorem dn_close {b : Nat} {B : List Int} {t : Nat} {p : Option Addr} {c : Nat} {w0 : World} {h : Hp} (hh : sats w0 [Cel b 85 [.slice p B.length c, .slice none 0 0, .int .i64 (t : Int), .bool false], Row U5 p B.length c B] h) : DN b B t w0 h := ⟨⟨p, c, none, 0⟩, trivial, hh⟩
theorem dd_close {b : Nat} {z : List Int} {t : Int} {p p2 : Option Addr} {n c c2 : Nat} {w0 : World} {h : Hp} (hh : sats w0 [Cel b 85 [.slice p n c, .slice p2 z.length c2, .int .i64 t, .bool true], Row U5 p2 z.length c2 z] h) : DD b z w0 h := ⟨⟨p, n, c, t, p2, c2⟩, trivial, hh⟩
def DM (b : Nat) (B : List Int) : Option Nat → HProp
 | some t => DN b B t
 | none => DD b (DefP.shF B)
def stepZ (B : List Int) (s : Option Nat) (n : Int) : Option Nat :=
 match s with
 | none => none
 | some t => if n < 1 then some t else if (B.length : Int) ≤ t + n then none else some (t + n.toNat)
theorem m_new (p : Option Addr) (c : Nat) (B : List Int) (R : HProp) (hR : ∀ w0 h, R w0 h → RdR U5 p B.length B w0 h) (hl : B.length ≤ 4194304) : Ctr Tryz.prog 33 [.slice p B.length c] [R] (Ret fun v G => ∃ b, v = .pointer (some ⟨b, 0, none⟩) ∧ G = [DN b B 0, R]) := by
 refine spec_of [(0, _)] Tryz.func33 rfl Tryz.ntmps33 rfl rfl ?_
 intro w0 F
 refine rT TTZfH 10 rfl ?_
 refine oV (v_F (v_gtr rfl rfl) (by omega)) ?_
 refine rO TTZfH 8 rfl ?_
 refine o_call (c_clone p c B R hR (by omega)) V.b40  rfl (rz1 .nil) rfl ?_
 rintro _ _ ⟨q9, c9, rfl, rfl⟩
 refine oV (v_build V.pl85 V.z85 rfl (cs := [_, _, _, _]) rfl) ?_
 refine o_box rfl (cs := [_, _, _, _]) rfl rfl ?_
 intro b11
 refine rO TTZfH 4 rfl ?_
 exact ret_ok (res1 rfl) ⟨b11, rfl, rfl⟩ (Sl.Sub.trans (fold' (rz2 .nil) .refl (fun w0 h hh => dn_close hh)) (sub (rz2 .nil) dd0))
theorem m_doneD (b : Nat) (z : List Int) : Ctr Tryz.prog 50 [.pointer (some ⟨b, 0, none⟩)] [DD b z] (Ret fun v G => v = .bool true ∧ G = [DD b z]) := by
 refine spec_of [(0, _)] Tryz.func50 rfl Tryz.ntmps50 rfl rfl ?_
 intro w0 F
 refine w_opn (fun h hh => hh) ?_
 rintro ⟨p1, n1, c1, t, p2, c2⟩ _
 dsimp only
 simp only [List.cons_append, List.nil_append]
 refine rT TTZfH 8 rfl ?_
 refine oV (v_to (v := .bool true) (v_nenil Tryz.underlying69 rfl rfl) rfl) ?_
 refine rO TTZfH 4 rfl ?_
 refine o_want rfl ?_
 refine oV (v_load V.s4 rfl mm0 rfl) ?_
 refine rO TTZfH 5 rfl ?_
 exact ret_ok (res1 rfl) ⟨rfl, rfl⟩ (Sl.Sub.trans (fold' (rz2 .nil) .refl (fun w0 h hh => dd_close hh)) (sub (rz1 .nil) dd0))
theorem m_outD (b : Nat) (z : List Int) (hz : z.length < 500000000) : Ctr Tryz.prog 35 [.pointer (some ⟨b, 0, none⟩)] [DD b z] (Ret fun v G => ∃ q c, v = .slice q z.length c ∧ G = [Row U5 q z.length c z, DD b z]) := by
 refine spec_of [(0, _)] Tryz.func35 rfl Tryz.ntmps35 rfl rfl ?_
 intro w0 F
 refine rT TTZfH 9 rfl ?_
 refine o_call (m_doneD b z) V.b50  rfl (rz1 .nil) rfl ?_
 rintro _ _ ⟨rfl, rfl⟩
 refine rO TTZfH 7 rfl ?_
 refine w_opn (fun h hh => hh) ?_
 rintro ⟨p1, n1, c1, t, p2, c2⟩ _
 dsimp only
 simp only [List.cons_append, List.nil_append]
 refine rC TTZfH 4 rfl ?_
 refine oV (v_load V.s22 rfl mm0 rfl) ?_
 refine o_call (c_clone p2 c2 z (Row U5 p2 z.length c2 z) (fun _ _ hh => hh.rd) hz) V.b40  rfl (.cons rr1 .nil) rfl ?_
 rintro _ _ ⟨q10, c10, rfl, rfl⟩
 refine rO TTZfH 4 rfl ?_
 exact ret_ok (res1 rfl) ⟨q10, c10, rfl, rfl⟩ (Sl.Sub.trans (fold' (.cons rr2 (.cons rr1 .nil)) .refl (fun w0 h hh => dd_close hh)) (sub (.cons rr1 (rz1 .nil)) dd0))
set_option maxHeartbeats 2000000 in
theorem m_stepN1 (b : Nat) (B : List Int) (t : Nat) (n : Int) (hn : 1 ≤ n) (ht : t ≤ B.length) (hl : B.length ≤ 4194304) (hlt : t + n < B.length) : Ctr Tryz.prog 34 [.pointer (some ⟨b, 0, none⟩), .int .i64 n] [DN b B t] (Ret fun v G => v = .bool false ∧ G = [DN b B (t + n.toNat)]) := by
 refine spec_of [(0, _), (1, _)] Tryz.func34 rfl Tryz.ntmps34 rfl rfl ?_
 intro w0 F
 refine w_opn (fun h hh => hh) ?_
 rintro ⟨p1, c1, p2, c2⟩ _
 dsimp only
 simp only [List.cons_append, List.nil_append]
 refine rT TTZfH 9 rfl ?_
 refine oV (v_to (v := .bool false) (v_eqnil Tryz.underlying69 rfl rfl) rfl) ?_
 refine rO TTZfH 9 rfl ?_
 refine oV (v_F (v_lss rfl rfl) (by omega)) ?_
 refine rO TTZfH 4 rfl ?_
 refine o_want rfl ?_
 refine oV (v_load V.s4 rfl mm0 rfl) ?_
 refine rO TTZfH 7 rfl ?_
 refine wN [pz 0 [] [0], pz 1 [0] [], pz 3 [1] [], pz 7 [2] [], pz 0 [] [1], pz 0 [] [0], pz 32 [5] [], pz 96 [6] [], pz 224 [7] [], pz 480 [8] [], pz 0 [] [0], pz 1024 [10] [], pz 3072 [11] [], pz 7168 [12] [], pz 16352 [9, 13] [], pz 32752 [4, 14] [], pz 65535 [3, 15] [], pz 131071 [0] [], pz 262143 [17] [], pz 524287 [18, 16] []] [⟨fun y => Cel b 85 [.slice p1 B.length c1, .slice none 0 0, .int .i64 (t : Int), .bool false], none, some 19, [3, 8, 13]⟩, ⟨fun y => Row U5 p1 B.length c1 B, none, none, []⟩, ⟨fun y => Cel b 85 [.slice p1 B.length c1, .slice none 0 0, .int .i64 ((t + n.toNat : Nat) : Int), .bool false], some 19, none, []⟩] F V.mixed ?_
 refine nM ?_
 refine nN ?_
 refine nG V.f85_2 ?_
 refine nR (fun y FF hA => v_load V.s3 rfl mm0 rfl) ?_
 iterate 2 refine nM ?_
 refine nN ?_
 refine nG V.f85_0 ?_
 refine nR (fun y FF hA => v_load V.s22 rfl mm0 rfl) ?_
 refine nV (fun y hA L => v_len (ty' := 0) Tryz.underlying22 rfl) ?_
 refine nM ?_
 refine nN ?_
 refine nG V.f85_2 ?_
 refine nR (fun y FF hA => v_load V.s3 rfl mm0 rfl) ?_
 refine nV (fun y hA L => v_sub rfl rfl wI) ?_
 refine nV (fun y hA L => v_to (v := .int .i64 n) (v_min rfl rfl) (by rw [if_neg (by omega)])) ?_
 refine nV (fun y hA L => v_to (v := .int .i64 ((t + n.toNat : Nat) : Int)) (v_add rfl rfl wI) (by congr 1; omega)) ?_
 refine nN ?_
 refine nG V.f85_2 ?_
 refine nE (fun y FF hA => st_v (v_store V.s3 rfl rfl rfl (by exact pp0) (by exact Nat.le_of_ble_eq_true rfl) rfl) ⟨rfl, .refl _⟩) ?_
 refine net_nil ?_
 intro y hA
 clear hA
 refine thn_n ?_
 refine w_keep _ (.cons (d := 0) rfl (.nil _)) ?_
 refine w_sub (M := Row U5 p1 B.length c1 B :: Cel b 85 [.slice p1 B.length c1, .slice none 0 0, .int .i64 ((t + n.toNat : Nat) : Int), .bool false] :: F) (fun _ _ h => h) ?_
 refine rC TTZfH 2 rfl ?_
 refine w_rd V.mixed (by kernel_rfl) ?_
 refine rR TTZfH 3 rfl ?_
 refine oR (v_load V.s3 rfl mm1 rfl) ?_
 refine rR TTZfH 3 rfl ?_
 refine oR (v_load V.s22 rfl mm1 rfl) ?_
 refine oR (v_len (ty' := 0) Tryz.underlying22 rfl) ?_
 refine oR (v_F (v_eql rfl rfl) (by omega)) ?_
 refine Rg.o_nil ?_
 refine rN TTZfH 9 rfl ?_
 refine oV (v_load V.s4 rfl mm1 rfl) ?_
 refine rO TTZfH 4 rfl ?_
 exact ret_ok (res1 rfl) ⟨rfl, rfl⟩ (Sl.Sub.trans (fold' (.cons rr1 (rz1 .nil)) .refl (fun w0 h hh => dn_close hh)) (sub (rz1 .nil) dd0))
set_option maxHeartbeats 2000000 in
theorem m_stepN2 (b : Nat) (B : List Int) (t : Nat) (n : Int) (hn : 1 ≤ n) (ht : t ≤ B.length) (hl : B.length ≤ 4194304) (hge : B.length ≤ t + n) (hB : BitP.Byt B) : Ctr Tryz.prog 34 [.pointer (some ⟨b, 0, none⟩), .int .i64 n] [DN b B t] (Ret fun v G => v = .bool true ∧ G = [DD b (DefP.shF B)]) := by
 refine spec_of [(0, _), (1, _)] Tryz.func34 rfl Tryz.ntmps34 rfl rfl ?_
 intro w0 F
 refine w_opn (fun h hh => hh) ?_
 rintro ⟨p1, c1, p2, c2⟩ _
 dsimp only
 simp only [List.cons_append, List.nil_append]
 refine rT TTZfH 9 rfl ?_
 refine oV (v_to (v := .bool false) (v_eqnil Tryz.underlying69 rfl rfl) rfl) ?_
 refine rO TTZfH 9 rfl ?_
 refine oV (v_F (v_lss rfl rfl) (by omega)) ?_
 refine rO TTZfH 4 rfl ?_
 refine o_want rfl ?_
 refine oV (v_load V.s4 rfl mm0 rfl) ?_
 refine rO TTZfH 7 rfl ?_
 refine wN [pz 0 [] [0], pz 1 [0] [], pz 3 [1] [], pz 7 [2] [], pz 0 [] [1], pz 0 [] [0], pz 32 [5] [], pz 96 [6] [], pz 224 [7] [], pz 480 [8] [], pz 0 [] [0], pz 1024 [10] [], pz 3072 [11] [], pz 7168 [12] [], pz 16352 [9, 13] [], pz 32752 [4, 14] [], pz 65535 [3, 15] [], pz 131071 [0] [], pz 262143 [17] [], pz 524287 [18, 16] []] [⟨fun y => Cel b 85 [.slice p1 B.length c1, .slice none 0 0, .int .i64 (t : Int), .bool false], none, some 19, [3, 8, 13]⟩, ⟨fun y => Row U5 p1 B.length c1 B, none, none, []⟩, ⟨fun y => Cel b 85 [.slice p1 B.length c1, .slice none 0 0, .int .i64 (B.length : Int), .bool false], some 19, none, []⟩] F V.mixed ?_
 refine nM ?_
 refine nN ?_
 refine nG V.f85_2 ?_
 refine nR (fun y FF hA => v_load V.s3 rfl mm0 rfl) ?_
 iterate 2 refine nM ?_
 refine nN ?_
 refine nG V.f85_0 ?_
 refine nR (fun y FF hA => v_load V.s22 rfl mm0 rfl) ?_
 refine nV (fun y hA L => v_len (ty' := 0) Tryz.underlying22 rfl) ?_
 refine nM ?_
 refine nN ?_
 refine nG V.f85_2 ?_
 refine nR (fun y FF hA => v_load V.s3 rfl mm0 rfl) ?_
 refine nV (fun y hA L => v_sub rfl rfl wI) ?_
 refine nV (fun y hA L => v_to (v := .int .i64 ((B.length : Int) - t)) (v_min rfl rfl) (by split <;> first | rfl | (congr 1; omega))) ?_
 refine nV (fun y hA L => v_to (v := .int .i64 (B.length : Int)) (v_add rfl rfl wI) (by congr 1; omega)) ?_
 refine nN ?_
 refine nG V.f85_2 ?_
 refine nE (fun y FF hA => st_v (v_store V.s3 rfl rfl rfl (by exact pp0) (by exact Nat.le_of_ble_eq_true rfl) rfl) ⟨rfl, .refl _⟩) ?_
 refine net_nil ?_
 intro y hA
 clear hA
 refine thn_n ?_
 refine w_keep _ (.cons (d := 0) rfl (.nil _)) ?_
 refine w_sub (M := Row U5 p1 B.length c1 B :: Cel b 85 [.slice p1 B.length c1, .slice none 0 0, .int .i64 (B.length : Int), .bool false] :: F) (fun _ _ h => h) ?_
 refine rC TTZfH 2 rfl ?_
 refine w_rd V.mixed (by kernel_rfl) ?_
 refine rR TTZfH 3 rfl ?_
 refine oR (v_load V.s3 rfl mm1 rfl) ?_
 refine rR TTZfH 3 rfl ?_
 refine oR (v_load V.s22 rfl mm1 rfl) ?_
 refine oR (v_len (ty' := 0) Tryz.underlying22 rfl) ?_
 refine oR (v_T (v_eql rfl rfl) (by omega)) ?_
 refine Rg.o_nil ?_
 refine rN TTZfH 2 rfl ?_
 refine w_fact (fun w hi => inv_pure hi mm0 (fun _ _ hh => row_cap (c := U5) (p := p1) (n := B.length) (cap := c1) (l := B) hh)) (fun hcap => ?_)
 refine rC TTZfH 6 rfl ?_
 refine oV (v_load V.s22 rfl mm1 rfl) ?_
 refine o_call (k_shortest p1 c1 B (Row U5 p1 B.length c1 B) (fun _ _ hh => hh.rd) hB hl hcap) V.b49  rfl (rz1 .nil) rfl ?_
 rintro _ _ ⟨q54, c54, rfl, rfl⟩
 refine rO TTZfH 2 rfl ?_
 refine o_eff (v_store V.s22 rfl rfl rfl (by exact pp2) (by exact Nat.le_of_ble_eq_true rfl) rfl) ?_
 refine rO TTZfH 2 rfl ?_
 refine o_eff (v_store V.s4 rfl rfl rfl (by exact pp2) (by exact Nat.le_of_ble_eq_true rfl) rfl) ?_
 refine rO TTZfH 7 rfl ?_
 refine oV (v_load V.s4 rfl mm2 rfl) ?_
 refine rO TTZfH 4 rfl ?_
 exact ret_ok (res1 rfl) ⟨rfl, rfl⟩ (Sl.Sub.trans (fold' (.cons rr2 (rz1 .nil)) .refl (fun w0 h hh => dd_close hh)) (sub (rz1 .nil) dd1))
end Go.Proofs.YtmbljkghkcgejaaGreat
namespace Go.Proofs.YtmbljkghkcgejaaGreat
open Go.Sl 
theorem TTZfI : okT Tryz.prog ⟨[], []⟩ = true := by kernel_rfl
attribute [local irreducible] DefP.shF
theorem m_all (p : Option Addr) (c : Nat) (B : List Int) (R : HProp) (hR : ∀ w0 h, R w0 h → RdR U5 p B.length B w0 h) (hl : B.length ≤ 4194304) (hB : BitP.Byt B) : Ctr Tryz.prog 18 [.slice p B.length c] [R] (Ret fun v G => ∃ q c, v = .slice q (DefP.shF B).length c ∧ G = [Row U5 q (DefP.shF B).length c (DefP.shF B), R]) := by
  refine spec_of [(0, _)] Tryz.func18 rfl Tryz.ntmps18 rfl rfl ?_
  intro w0 F
  have hsl := DefP.shF_bd (B := B) hB hl
  refine rT TTZfI 8 rfl ?_
  refine o_call (m_new p c B R hR hl) V.b33  rfl (rz1 .nil) rfl ?_
  rintro _ _ ⟨b5, rfl, rfl⟩
  refine rO TTZfI 6 rfl ?_
  refine o_call (m_stepN2 b5 B 0 4194304 (by omega) (by omega) hl (by omega) hB) V.b34  rfl (rz1 .nil) rfl ?_
  rintro _ _ ⟨rfl, rfl⟩
  refine rO TTZfI 5 rfl ?_
  refine o_call (m_outD b5 (DefP.shF B) (by omega)) V.b35  rfl (rz1 .nil) rfl ?_
  rintro _ _ ⟨q9, c9, rfl, rfl⟩
  refine rO TTZfI 4 rfl ?_
  exact ret_ok (res1 rfl) ⟨q9, c9, rfl, rfl⟩ (sub (rz1 (.cons rr1 .nil)) dd1)
section
variable (b : Nat) (B : List Int) (s : Option Nat)
def DOk (B : List Int) : Option Nat → Prop
  | some t => t ≤ B.length
  | none => True
def outZ (B : List Int) : Option Nat → List Int
  | some _ => []
  | none => DefP.shF B
end
end Go.Proofs.YtmbljkghkcgejaaGreat

/-
  Steps of the proof: walks of functions that the statement reaches; printed by a program of ours.
-/
import Derived.Test.YthmgkggpipnalaaSl22
import Derived.KernelRfl
import Derived.Test.YthmgkggpipnalaaDfB
import Derived.Test.YthmgkggpipnalaaM31
import Derived.Test.YthmgkggpipnalaaM33
namespace Go.Proofs.Ythmgkggpipnalaa
open Go.Sl 
set_option linter.unusedVariables false
theorem TTDfC : okT Try.prog ⟨[34, 68], [(79, 0, 0), (79, 1, 1), (79, 2, 2)]⟩ = true := by kernel_rfl
set_option linter.unusedSimpArgs false

attribute [local irreducible] DefP.mxK DefP.dnG DefP.dn DefP.rr DefP.rarK DefP.rarF DefP.incr DefP.cntA DefP.cntB DefP.cA0 DefP.cB0 DefP.lnSm DefP.lnMo DefP.lnRe DefP.dsSm DefP.dsMo DefP.dsRe List.replicate

set_option maxHeartbeats 2000000 in
set_option maxRecDepth 100000 in
theorem k_rare (q : Option Addr) (c : Nat) (fr : List Int) (hb : ∀ i, 0 ≤ fr.getD i 0 ∧ fr.getD i 0 ≤ 8388608) (hl : fr.length ≤ 1000) : Ctr Try.prog 52 [.slice q fr.length c] [Row I3 q fr.length c fr] (Ret fun v G => v = .slice q fr.length c ∧ G = [Row I3 q fr.length c (DefP.rarF fr)]) := by
  refine spec_of [(0, _)] Try.func52 rfl Try.ntmps52 rfl rfl ?_
  intro w0 F
  refine rT TTDfC 19 rfl ?_
  rw [show ((3 : Nat), Value.int .i64 0) = (3, .int .i64 (DefP.mxK fr 0)) from by unfold DefP.mxK; rfl]
  refine w_loop1 (fun (k : Nat) => [(0, .slice q fr.length c), (3, .int .i64 (DefP.mxK fr k)), (9, .slice q fr.length c), (10, .int .i64 (fr.length : Int)), (11, .int .i64 (k : Int))]) (fun (k : Nat) => Row I3 q fr.length c fr :: F) (fun (k : Nat) => k ≤ fr.length) (fun (k : Nat) => fr.length - k) (i1 (0) ?_ (.cons rfl (.cons rfl (.cons rfl (.cons rfl (.cons rfl (.nil _)))))) (sub (.cons (by exact rr0) .nil) (by exact dd0))) ?_
  ·
    exact Nat.zero_le _
  intro k
  rintro hk
  refine rL TTDfC 6 rfl ?_
  refine w_condD rfl (fun h12 => ?_) (fun h12 => ?_)
  ·
    refine rC TTDfC 6 rfl ?_
    refine o_val (r_index (c := (I3)) V.sl34 rfl rfl (by exact own mm0) (by omega) (by omega)) rfl ?_
    refine o_val (r_load (c := (I3)) V.s3 rfl (by exact own mm0) (by omega) (by omega) rfl rfl) rfl ?_
    refine rO TTDfC 6 rfl ?_
    refine o_val (v_max rfl rfl) rfl ?_
    refine rOs TTDfC 8 rfl (by omega) ?_
    rw [show (if DefP.mxK fr k < I3.g fr (k : Int) then I3.g fr (k : Int) else DefP.mxK fr k) = DefP.mxK fr (k + 1) from by rw [show I3.g fr (k : Int) = fr.getD k 0 from rfl]; simp only [DefP.mxK]]
    refine j1 (k + 1) ?_ (.cons rfl (.cons rfl (.cons rfl (.cons rfl (.cons rfl (.nil _)))))) (sub (.cons (by exact rr0) .nil) (by exact dd0))
    exact ⟨by omega, by omega⟩
  ·
    refine rC TTDfC 6 rfl ?_
    obtain rfl : k = fr.length := by omega
    refine rC TTDfC 6 rfl ?_
    have hm0 := DefP.mxK_ge fr fr.length
    have hm1 := DefP.mxK_le (N := 8388608) (by decide) (fun i => (hb i).2) fr.length
    refine w_loop1 (fun (d : Nat) => [(0, .slice q fr.length c), (3, .int .i64 (DefP.mxK fr fr.length)), (6, .int .i64 (d : Int))]) (fun (d : Nat) => Row I3 q fr.length c fr :: F) (fun (d : Nat) => d ≤ 4 ∧ DefP.dn fr = DefP.dnG (DefP.mxK fr fr.length) (16 - d) d) (fun (d : Nat) => 16 - d) (i1 (0) ?_ (.cons rfl (.cons rfl (.cons rfl (.nil _)))) (sub (.cons (by exact rr0) .nil) (by exact dd0))) ?_
    ·
      exact ⟨by omega, by unfold DefP.dn; rfl⟩
    intro d
    rintro ⟨hd, hd2⟩
    refine rL TTDfC 5 rfl ?_
    refine o_val (v_shr (r := DefP.mxK fr fr.length / 2 ^ d) rfl rfl (by omega) (BitP.shrI (by omega) rfl)) rfl ?_
    refine rO TTDfC 3 rfl ?_
    refine w_condD rfl (fun h22 => ?_) (fun h22 => ?_)
    ·
      refine rCs TTDfC 9 rfl (by omega) ?_
      have hd4 : d < 4 := by
        rcases Nat.lt_or_ge d 4 with h1 | h1
        · exact h1
        · exact absurd (by assumption) (DefP.div_lt4 (x := DefP.mxK fr fr.length) ⟨hm0, hm1⟩ h1)
      refine j1 (d + 1) ?_ (.cons rfl (.cons rfl (.cons rfl (.nil _)))) (sub (.cons (by exact rr0) .nil) (by exact dd0))
      exact ⟨⟨by omega, hd2.trans (DefP.dnG_next (by omega) (by assumption))⟩, by omega⟩
    ·
      refine rC TTDfC 14 rfl ?_
      have hdd : DefP.dn fr = d := hd2.trans (DefP.dnG_end (by assumption) _)
      rw [show Row I3 q fr.length c fr = Row I3 q fr.length c (DefP.rarK fr d 0) from by simp only [DefP.rarK]]
      refine w_loop1 (fun (i : Nat) => [(0, .slice q fr.length c), (6, .int .i64 (d : Int)), (25, .slice q fr.length c), (26, .int .i64 (fr.length : Int)), (27, .int .i64 (i : Int))]) (fun (i : Nat) => Row I3 q fr.length c (DefP.rarK fr d i) :: F) (fun (i : Nat) => i ≤ fr.length) (fun (i : Nat) => fr.length - i) (i1 (0) ?_ (.cons rfl (.cons rfl (.cons rfl (.cons rfl (.cons rfl (.nil _)))))) (sub (.cons (by exact rr0) .nil) (by exact dd0))) ?_
      ·
        exact Nat.zero_le _
      intro i
      rintro hi
      refine rL TTDfC 6 rfl ?_
      refine w_condD rfl (fun h28 => ?_) (fun h28 => ?_)
      ·
        refine rC TTDfC 7 rfl ?_
        refine o_val (r_index (c := (I3)) V.sl34 rfl rfl (by exact own mm0) (by omega) (by omega)) rfl ?_
        refine o_val (r_load (c := (I3)) V.s3 rfl (by exact own mm0) (by omega) (by omega) rfl rfl) rfl ?_
        have hi2 : i < fr.length := by omega
        have hgi := DefP.rarK_get fr d i i hi2
        rw [if_neg (by omega)] at hgi
        have hgl := DefP.rarK_len fr d i
        rw [show I3.g (DefP.rarK fr d i) (i : Int) = fr.getD i 0 from hgi]
        have hbi := hb i
        refine rO TTDfC 10 rfl ?_
        refine w_condD rfl (fun h33 => ?_) (fun h33 => ?_)
        ·
          refine rC TTDfC 5 rfl ?_
          refine o_val (v_shr (r := fr.getD i 0 / 2 ^ d) rfl rfl (by omega) (BitP.shrI (by omega) rfl)) rfl ?_
          refine o_val (v_max rfl rfl) rfl ?_
          refine o_val (r_index (c := (I3)) V.sl34 rfl rfl (by exact own mm0) (by omega) (by omega)) rfl ?_
          refine o_eff (r_store (c := (I3)) (_) V.s3 rfl rfl rfl (by exact pp0) (by omega) (by omega) rfl rfl) ?_
          refine rOs TTDfC 7 rfl (by omega) ?_
          (rw [show ((i : Int)).toNat = i from rfl, ← DefP.rarK_yes (d := d) h33]; exact j1 (i + 1) ⟨by omega, by omega⟩ (.cons rfl (.cons rfl (.cons rfl (.cons rfl (.cons rfl (.nil _)))))) (sub (.cons (by exact rr0) .nil) (by exact dd0)))
        ·
          refine rCs TTDfC 7 rfl (by omega) ?_
          (rw [← DefP.rarK_no (d := d) hi2 h33]; exact j1 (i + 1) ⟨by omega, by omega⟩ (.cons rfl (.cons rfl (.cons rfl (.cons rfl (.cons rfl (.nil _)))))) (sub (.cons (by exact rr0) .nil) (by exact dd0)))
      ·
        refine rC TTDfC 12 rfl ?_
        obtain rfl : i = fr.length := by omega
        exact ret_ok (G := [Row I3 q fr.length c (DefP.rarK fr d fr.length)]) (res1 rfl) ⟨rfl, by unfold DefP.rarF; rw [hdd]⟩ (sub (.cons (by exact rr0) .nil) (by exact dd0))


theorem k_rareN (q : Option Addr) (c n : Nat) (fr : List Int) (hb : ∀ i, 0 ≤ fr.getD i 0 ∧ fr.getD i 0 ≤ 8388608) (hn : fr.length = n) (hl : n ≤ 1000) : Ctr Try.prog 52 [.slice q n c] [Row I3 q n c fr] (Ret fun v G => v = .slice q n c ∧ G = [Row I3 q n c (DefP.rarF fr)]) := by
  subst hn
  exact k_rare q c fr hb hl
theorem incr_row {l l' : List Int} {s v : Int} (h : DefP.incr l s = l') (hv : v = I3.g l s) : l.set s.toNat (v + 1) = l' := by
  rw [← h, hv]; unfold DefP.incr; rfl
theorem cntA_z (l : List DefP.Tok) : (List.replicate 286 I3.d).set ((256 : Int)).toNat 1 = DefP.cntA (l.take 0) DefP.cA0 := by
  rw [List.take_zero]; unfold DefP.cA0; simp only [DefP.cntA]; rfl
theorem cntB_z (l : List DefP.Tok) : List.replicate 30 I3.d = DefP.cntB (l.take 0) DefP.cB0 := by
  rw [List.take_zero]; unfold DefP.cB0; simp only [DefP.cntB]


set_option maxHeartbeats 4000000 in
set_option maxRecDepth 100000 in
theorem k_counted (q : Option Addr) (cq : Nat) (l : List DefP.Tok) (RT : HProp) (hRT : ∀ w0 h, RT w0 h → RdR TK q l.length l w0 h) (hok : ∀ t ∈ l, DefP.TokOk t) (hl : l.length ≤ 4194304) : Ctr Try.prog 42 [.slice q l.length cq] [RT] (Ret fun v G => ∃ ba bb, v = .tuple #[.slice (some ⟨ba, 0, none⟩) 286 286, .slice (some ⟨bb, 0, none⟩) 30 30] ∧ G = [Row I3 (some ⟨ba, 0, none⟩) 286 286 (DefP.fA l), Row I3 (some ⟨bb, 0, none⟩) 30 30 (DefP.fB l), RT]) := by
  refine spec_of [(0, _)] Try.func42 rfl Try.ntmps42 rfl rfl ?_
  intro w0 F
  refine rT TTDfC 7 rfl ?_
  refine w_net [⟨[], [], [], 0, 0⟩, ⟨[], [], [], 0, 0⟩, ⟨[0], [0], [], 0, 0⟩, ⟨[0, 1, 2], [1], [], 0, 0⟩] [⟨fun y => RT, none, none, []⟩, ⟨fun y => Row (I3) (some ⟨(blk' (slP (y 0))), 0, none⟩) 286 286 (List.replicate 286 (I3).d), some 0, none, []⟩, ⟨fun y => Row (I3) (some ⟨(blk' (slP (y 1))), 0, none⟩) 30 30 (List.replicate 30 (I3).d), some 1, none, []⟩] F V.mixed (by kernel_rfl) rfl (fun _ => .refl _) (locT_0 _ (locT_1 [] rfl (by intro y y2 h; simp only [h 0 (.inl rfl)]) (locT_1 [] rfl (by intro y y2 h; simp only [h 1 (.inl rfl)]) locT_nil))) ?_
  refine net_new (fun y v => .slice (some ⟨blk' (slP v), 0, none⟩) 286 286) (fun y v => True) (fun y => []) (fun y => []) (fun y v => [Row (I3) (some ⟨(blk' (slP v)), 0, none⟩) 286 286 (List.replicate 286 (I3).d)]) (fun y => []) (fun y => rfl) (fun y => rfl) (fun y => rfl) (fun y => rfl) (fun y FF hA => st_newN (r_makeNX 286 286 (I3) rfl rfl V.sl34 V.z3 rfl rfl rfl rfl (by omega) (by omega) rfl)) (by intros; rfl) (by intros; rfl) (by intros; rfl) (by intro y y2 h; simp only [h 0 (.inl rfl)]) (by intro y y2 h; rfl) ?_
  refine net_new (fun y v => .slice (some ⟨blk' (slP v), 0, none⟩) 30 30) (fun y v => True) (fun y => []) (fun y => []) (fun y v => [Row (I3) (some ⟨(blk' (slP v)), 0, none⟩) 30 30 (List.replicate 30 (I3).d)]) (fun y => []) (fun y => rfl) (fun y => rfl) (fun y => rfl) (fun y => rfl) (fun y FF hA => st_newN (r_makeNX 30 30 (I3) rfl rfl V.sl34 V.z3 rfl rfl rfl rfl (by omega) (by omega) rfl)) (by intros; rfl) (by intros; rfl) (by intros; rfl) (by intro y y2 h; simp only [h 1 (.inl rfl)]) (by intro y y2 h; rfl) ?_
  refine net_pure (fun y => [(11, _)]) (fun y => rfl) rfl rfl rfl (fun y hA L => st_v (v_assign rfl) ⟨rfl, rfl⟩) (by intros; rfl) (by intro y y2 h; simp only [h 0 (.inr (by decide))]) ?_
  refine net_pure (fun y => [(12, _)]) (fun y => rfl) rfl rfl rfl (fun y hA L => st_v (v_assign rfl) ⟨rfl, rfl⟩) (by intros; rfl) (by intro y y2 h; simp only [h 1 (.inr (by decide))]) ?_
  refine net_nil ?_
  intro y hA
  clear hA
  refine thn_n ?_
  refine w_keep [(0, .slice q l.length cq), (4, .slice (some ⟨(blk' (slP (y 0))), 0, none⟩) 286 286), (5, .slice (some ⟨(blk' (slP (y 1))), 0, none⟩) 30 30)] (.cons (d := 0) rfl (.cons (d := 4) rfl (.cons (d := 5) rfl (.nil _)))) ?_
  refine w_sub (M := RT :: Row (I3) (some ⟨(blk' (slP (y 0))), 0, none⟩) 286 286 (List.replicate 286 (I3).d) :: Row (I3) (some ⟨(blk' (slP (y 1))), 0, none⟩) 30 30 (List.replicate 30 (I3).d) :: F) (fun _ _ h => h) ?_
  generalize (blk' (slP (y 0))) = b11
  generalize (blk' (slP (y 1))) = b12
  refine rC TTDfC 3 rfl ?_
  refine o_val (r_index (c := (I3)) V.sl34 rfl rfl (by exact own mm1) (by omega) (by omega)) rfl ?_
  refine o_eff (r_store (c := (I3)) (_) V.s3 rfl rfl rfl (by exact pp1) (by omega) (by omega) rfl rfl) ?_
  refine rO TTDfC 11 rfl ?_
  rw [cntA_z l, cntB_z l]
  refine w_loop1 (fun (k : Nat) => [(4, .slice (some ⟨b11, 0, none⟩) 286 286), (5, .slice (some ⟨b12, 0, none⟩) 30 30), (15, .slice q l.length cq), (16, .int .i64 (l.length : Int)), (17, .int .i64 (k : Int))]) (fun (k : Nat) => Row I3 (some ⟨b11, 0, none⟩) 286 286 (DefP.cntA (l.take k) DefP.cA0) :: Row I3 (some ⟨b12, 0, none⟩) 30 30 (DefP.cntB (l.take k) DefP.cB0) :: RT :: F) (fun (k : Nat) => k ≤ l.length) (fun (k : Nat) => l.length - k) (i1 (0) ?_ (.cons rfl (.cons rfl (.cons rfl (.cons rfl (.cons rfl (.nil _)))))) (sub (.cons (by exact rr1) (.cons (by exact rr1) (.cons (by exact rr0) .nil))) (by exact dd0))) ?_
  ·
    exact Nat.zero_le _
  intro k
  rintro hk
  refine rL TTDfC 6 rfl ?_
  refine w_condD rfl (fun h18 => ?_) (fun h18 => ?_)
  ·
    refine rC TTDfC 5 rfl ?_
    have hk2 : k < l.length := by omega
    have hxe : (TK.g l (k : Int)) = l[k] := by simp [Ec.g, hk2]
    have hxm : (TK.g l (k : Int)) ∈ l := by rw [hxe]; exact List.getElem_mem hk2
    have hto := hok _ hxm
    have hor := hto.or_
    have hgA := fun i => DefP.cA_all (l := l.take k) (by rw [List.length_take]; omega) i
    have hgB := fun i => DefP.cB_all (l := l.take k) (by rw [List.length_take]; omega) i
    have hAl : (DefP.cntA (l.take k) DefP.cA0).length = 286 := (DefP.cntA_len _ _).trans DefP.cA0_len
    have hBl : (DefP.cntB (l.take k) DefP.cB0).length = 30 := (DefP.cntB_len _ _).trans DefP.cB0_len
    refine w_region ?_
    refine o_val (r_index (c := (TK)) V.sl68 rfl rfl (by exact rdH hRT mm2) (by omega) (by omega)) rfl ?_
    refine o_val (r_loadA (c := (TK)) V.a79 rfl (by exact rdH hRT mm2) (by omega) (by omega) rfl) rfl ?_
    refine o_alloc V.z79 rfl ?_
    intro b7
    refine o_eff (v_storeAgg V.a79 rfl rfl (us := [_, _, _]) rfl rfl (by exact pp0) (by exact Nat.le_of_ble_eq_true rfl) rfl) ?_
    refine rO TTDfC 6 rfl ?_
    refine o_val (v_load V.s3 rfl (by exact mm0) rfl) rfl ?_
    refine rO TTDfC 3 rfl ?_
    refine w_condD rfl (fun h23 => ?_) (fun h23 => ?_)
    ·
      refine rC TTDfC 1 rfl ?_
      have hor2 : 0 ≤ (TK.g l (k : Int)).lit ∧ (TK.g l (k : Int)).lit < 256 := by omega
      have hv : 0 ≤ I3.g (DefP.cntA (l.take k) DefP.cA0) (TK.g l (k : Int)).lit ∧ I3.g (DefP.cntA (l.take k) DefP.cA0) (TK.g l (k : Int)).lit ≤ 8388608 := hgA _
      refine rC TTDfC 3 rfl ?_
      refine o_val (v_load V.s3 rfl (by exact mm0) rfl) rfl ?_
      refine o_val (r_index (c := (I3)) V.sl34 rfl rfl (by exact own mm1) (by omega) (by omega)) rfl ?_
      refine o_val (r_load (c := (I3)) V.s3 rfl (by exact own mm1) (by omega) (by omega) rfl rfl) rfl ?_
      refine rOs TTDfC 1 rfl (by omega) ?_
      refine o_val (r_index (c := (I3)) V.sl34 rfl rfl (by exact own mm1) (by omega) (by omega)) rfl ?_
      refine o_eff (r_store (c := (I3)) (_) V.s3 rfl rfl rfl (by exact pp1) (by omega) (by omega) rfl rfl) ?_
      refine rOs TTDfC 10 rfl (by omega) ?_
      (rw [incr_row (l := DefP.cntA (l.take k) DefP.cA0) (l' := DefP.cntA (l.take (k + 1)) DefP.cA0) (s := (TK.g l (k : Int)).lit) (by rw [hxe]; exact DefP.cntA_lit hk2 _ (by rw [← hxe]; exact h23)) rfl, DefP.cntB_lit hk2 _ (by rw [← hxe]; exact h23)]; exact j1 (k + 1) ⟨by omega, by omega⟩ (.cons rfl (.cons rfl (.cons rfl (.cons rfl (.cons rfl (.nil _)))))) (sub (.cons (by exact rr1) (.cons (by exact rr1) (.cons (by exact rr1) .nil))) (by exact dd1)))
    ·
      refine rC TTDfC 3 rfl ?_
      have hln := DefP.ln_ok (n := (TK.g l (k : Int)).n) (by omega)
      have hds := DefP.ds_ok (f := (TK.g l (k : Int)).far) (by omega)
      have hv : 0 ≤ I3.g (DefP.cntA (l.take k) DefP.cA0) (DefP.lnSm (TK.g l (k : Int)).n) ∧ I3.g (DefP.cntA (l.take k) DefP.cA0) (DefP.lnSm (TK.g l (k : Int)).n) ≤ 8388608 := hgA _
      have hv2 : 0 ≤ I3.g (DefP.cntB (l.take k) DefP.cB0) (DefP.dsSm (TK.g l (k : Int)).far) ∧ I3.g (DefP.cntB (l.take k) DefP.cB0) (DefP.dsSm (TK.g l (k : Int)).far) ≤ 8388608 := hgB _
      refine rC TTDfC 2 rfl ?_
      refine o_val (v_load V.s3 rfl (by exact mm0) rfl) rfl ?_
      refine o_call (k_length (TK.g l (k : Int)).n (by omega)) V.b50  rfl .nil rfl ?_
      rintro _ _ ⟨rfl, rfl⟩
      refine rO TTDfC 13 rfl ?_
      refine o_val (r_index (c := (I3)) V.sl34 rfl rfl (by exact own mm1) (by omega) (by omega)) rfl ?_
      refine o_val (r_load (c := (I3)) V.s3 rfl (by exact own mm1) (by omega) (by omega) rfl rfl) rfl ?_
      refine rOs TTDfC 1 rfl (by omega) ?_
      refine o_val (r_index (c := (I3)) V.sl34 rfl rfl (by exact own mm1) (by omega) (by omega)) rfl ?_
      refine o_eff (r_store (c := (I3)) (_) V.s3 rfl rfl rfl (by exact pp1) (by omega) (by omega) rfl rfl) ?_
      refine rO TTDfC 5 rfl ?_
      refine o_val (v_load V.s3 rfl (by exact mm0) rfl) rfl ?_
      refine o_call (k_away (TK.g l (k : Int)).far (by omega)) V.b51  rfl .nil rfl ?_
      rintro _ _ ⟨rfl, rfl⟩
      refine rO TTDfC 10 rfl ?_
      refine o_val (r_index (c := (I3)) V.sl34 rfl rfl (by exact own mm2) (by omega) (by omega)) rfl ?_
      refine o_val (r_load (c := (I3)) V.s3 rfl (by exact own mm2) (by omega) (by omega) rfl rfl) rfl ?_
      refine rOs TTDfC 1 rfl (by omega) ?_
      refine o_val (r_index (c := (I3)) V.sl34 rfl rfl (by exact own mm2) (by omega) (by omega)) rfl ?_
      refine o_eff (r_store (c := (I3)) (_) V.s3 rfl rfl rfl (by exact pp2) (by omega) (by omega) rfl rfl) ?_
      refine rOs TTDfC 7 rfl (by omega) ?_
      (rw [incr_row (l := DefP.cntA (l.take k) DefP.cA0) (l' := DefP.cntA (l.take (k + 1)) DefP.cA0) (s := DefP.lnSm (TK.g l (k : Int)).n) (by rw [hxe]; exact DefP.cntA_cp hk2 _ (by rw [← hxe]; exact h23)) rfl, incr_row (l := DefP.cntB (l.take k) DefP.cB0) (l' := DefP.cntB (l.take (k + 1)) DefP.cB0) (s := DefP.dsSm (TK.g l (k : Int)).far) (by rw [hxe]; exact DefP.cntB_cp hk2 _ (by rw [← hxe]; exact h23)) rfl]; exact j1 (k + 1) ⟨by omega, by omega⟩ (.cons rfl (.cons rfl (.cons rfl (.cons rfl (.cons rfl (.nil _)))))) (sub (.cons (by exact rr1) (.cons (by exact rr1) (.cons (by exact rr1) .nil))) (by exact dd1)))
  ·
    refine rC TTDfC 6 rfl ?_
    obtain rfl : k = l.length := by omega
    rw [List.take_length]
    refine rC TTDfC 2 rfl ?_
    refine o_call (k_rareN (some ⟨b11, 0, none⟩) 286 286 (DefP.cntA l DefP.cA0) (DefP.cA_all hl) ((DefP.cntA_len _ _).trans DefP.cA0_len) (by decide)) V.b52  rfl (.cons (by exact rr0) .nil) rfl ?_
    rintro _ _ ⟨rfl, rfl⟩
    refine o_val (v_move rfl) rfl ?_
    refine o_call (k_rareN (some ⟨b12, 0, none⟩) 30 30 (DefP.cntB l DefP.cB0) (DefP.cB_all hl) ((DefP.cntB_len _ _).trans DefP.cB0_len) (by decide)) V.b52  rfl (.cons (by exact rr1) .nil) rfl ?_
    rintro _ _ ⟨rfl, rfl⟩
    refine rO TTDfC 5 rfl ?_
    exact ret_ok (G := [Row I3 (some ⟨b11, 0, none⟩) 286 286 (DefP.rarF (DefP.cntA l DefP.cA0)), Row I3 (some ⟨b12, 0, none⟩) 30 30 (DefP.rarF (DefP.cntB l DefP.cB0)), RT]) (res2 rfl rfl) ⟨b11, b12, rfl, by unfold DefP.fA DefP.fB; rfl⟩ (sub (.cons (by exact rr1) (.cons (by exact rr0) (.cons (by exact rr0) .nil))) (by exact dd0))
end Go.Proofs.Ythmgkggpipnalaa

/- Steps of the proof: the walks of the functions that the statement reaches; printed by a program of ours. -/
import Derived.Test.YthmgkggpipnalaaSl22
import Derived.KernelRfl
import Derived.Test.YthmgkggpipnalaaDfC
import Derived.Test.YthmgkggpipnalaaM31
import Derived.Test.YthmgkggpipnalaaM41
/-
  Steps of the proof: walks of functions that the statement reaches; printed by a program of ours.
-/
namespace Go.Proofs.Ythmgkggpipnalaa
open Go.Sl 
set_option linter.unusedVariables false
theorem TTDfD : okT Try.prog ⟨[23], []⟩ = true := by kernel_rfl
set_option linter.unusedSimpArgs false

attribute [local irreducible] DefP.chk DefP.stF InfP.blks InfP.blkB HuffP.newE HuffP.ord HuffP.cntL HuffP.words HuffP.mostL HuffP.wb HuffP.lkB HuffP.lkN HuffP.lkW DefP.toksB InfP.fixK InfP.fixL

theorem rdr_take {c : Ec Int} {p : Option Addr} {n cap : Nat} {l : List Int} {R : HProp} (hR : ∀ w0 h, R w0 h → RdR c p n l w0 h) (k : Nat) (hk : k ≤ n) : ∀ w0 h, R w0 h → RdR c p k (l.take k) w0 h := fun w0 h hh => by
  have := (hR w0 h hh).sub 0 k n (Nat.zero_le _) hk hk
  rwa [subP_zero, Nat.sub_zero, List.drop_zero] at this
theorem rdr_drop {c : Ec Int} {p : Option Addr} {n : Nat} {l : List Int} {R : HProp} (hR : ∀ w0 h, R w0 h → RdR c p n l w0 h) (hl : l.length = n) (k m : Nat) (hk : k ≤ n) (hm : n ≤ m) : ∀ w0 h, R w0 h → RdR c (subP p k m c.sz) (n - k) (l.drop k) w0 h := fun w0 h hh => by
  have := (hR w0 h hh).sub k n m hk (Nat.le_refl _) hm
  rwa [List.take_of_length_le (by rw [List.length_drop]; omega)] at this


set_option maxHeartbeats 4000000 in
set_option maxRecDepth 100000 in
theorem k_stored (p : Option Addr) (c : Nat) (B : List Int) (R : HProp) (hR : ∀ w0 h, R w0 h → RdR U5 p B.length B w0 h) (hl : B.length ≤ 4194304) (hcap : B.length ≤ c) : Ctr Try.prog 33 [.slice p B.length c] [R] (Ret fun v G => ∃ q cq, v = .slice q (DefP.stF B).length cq ∧ G = [Row U5 q (DefP.stF B).length cq (DefP.stF B), R]) := by
  refine spec_of [(0, _)] Try.func33 rfl Try.ntmps33 rfl rfl ?_
  intro w0 F
  refine rT TTDfD 11 rfl ?_
  refine w_add0 (Row U5 none 0 0 []) (Row.nil _ _ _) ?_
  refine w_loop7 (fun (f : Nat) (pz : Option Addr) (cz : Nat) (Z : List Int) (po : Option Addr) (co : Nat) (O : List Int) => [(0, .slice pz Z.length cz), (3, .slice po O.length co)]) (fun (f : Nat) (pz : Option Addr) (cz : Nat) (Z : List Int) (po : Option Addr) (co : Nat) (O : List Int) => Row U5 po O.length co O :: R :: F) (fun (f : Nat) (pz : Option Addr) (cz : Nat) (Z : List Int) (po : Option Addr) (co : Nat) (O : List Int) => O ++ InfP.blks (DefP.chk f Z) = DefP.stF B ∧ Z.length ≤ 65535 * (f + 1) ∧ (∀ w0 h, R w0 h → RdR U5 pz Z.length Z w0 h) ∧ Z.length ≤ cz ∧ O.length + Z.length ≤ 2 * B.length + 5 * (65 - f) ∧ f ≤ 64) (fun (f : Nat) (pz : Option Addr) (cz : Nat) (Z : List Int) (po : Option Addr) (co : Nat) (O : List Int) => f) (i7 (64) (p) (c) (B) (none) (0) ([]) ?_ (.cons rfl (.cons rfl (.nil _))) (sub (.cons (by exact rr0) (.cons (by exact rr0) .nil)) (by exact dd0))) ?_
  ·
    exact ⟨DefP.stF_eq B, by omega, hR, hcap, by simp; omega, by omega⟩
  intro f pz cz Z po co O
  rintro ⟨hO, hZf, hZR, hZc, hOl, hf⟩
  refine rL TTDfD 1 rfl ?_
  rcases (Nat.lt_or_ge 65535 Z.length) with hZ | hZ
  ·
    refine rC TTDfD 5 rfl ?_
    refine o_val (v_to (v := .int .i64 65535) (v_min rfl rfl) (by rw [if_pos (by omega)])) rfl ?_
    refine o_val (v_slice0 65535 cz V.sl23 rfl ⟨_, rfl⟩ rfl (by omega) (by omega)) rfl ?_
    refine rO TTDfD 8 rfl ?_
    refine o_val (v_slice 65535 Z.length cz V.sl23 rfl ⟨_, rfl⟩ ⟨rfl, rfl⟩ rfl (by omega) (by omega) (by omega)) rfl ?_
    refine rO TTDfD 13 rfl ?_
    refine o_val (v_F (v_eql rfl rfl) (by omega)) rfl ?_
    refine rO TTDfD 17 rfl ?_
    refine o_val (v_conv V.u3 Try.underlying5 rfl (BitP.u8_mod (65535 : Int))) rfl ?_
    refine o_val (v_move rfl) rfl ?_
    refine o_val (v_shr (r := (65535 : Int) / 256) rfl rfl (by omega) (BitP.shrI (k := 8) (by decide) rfl)) rfl ?_
    refine o_val (v_conv V.u3 Try.underlying5 rfl (wrap8 (by omega) (by omega))) rfl ?_
    refine o_val (v_move rfl) rfl ?_
    refine o_val (v_compl (r := -(65535 : Int) - 1) rfl (BitP.compl64 (by omega) (by omega))) rfl ?_
    refine o_val (v_conv V.u3 Try.underlying5 rfl ((BitP.u8_mod _).trans (show (-(65535 : Int) - 1) % 256 = 255 - (65535 : Int) % 256 from by omega))) rfl ?_
    refine o_val (v_move rfl) rfl ?_
    refine o_val (v_compl (r := -(65535 : Int) - 1) rfl (BitP.compl64 (by omega) (by omega))) rfl ?_
    refine o_val (v_shr (r := (-(65535 : Int) - 1) / 256) rfl rfl (by omega) (BitP.shrI (k := 8) (by decide) rfl)) rfl ?_
    refine o_val (v_conv V.u3 Try.underlying5 rfl ((BitP.u8_mod _).trans (show ((-(65535 : Int) - 1) / 256) % 256 = 255 - (65535 : Int) / 256 from by omega))) rfl ?_
    refine r_build (U5) [0, (65535 : Int) % 256, (65535 : Int) / 256, 255 - (65535 : Int) % 256, 255 - (65535 : Int) / 256] V.sl23 V.z5 rfl rfl rfl rfl rfl rfl ?_
    intro b35
    refine r_append (c := (U5)) V.sl23 V.z5 rfl rfl rfl rfl (by exact rr1) (by exact own mm0) (by omega) rfl ?_
    intro p36 c36
    refine rO TTDfD 4 rfl ?_
    have hPR : ∀ w0 h, R w0 h → RdR U5 pz 65535 (Z.take 65535) w0 h := rdr_take (cap := 0) hZR 65535 (by omega)
    refine rC TTDfD 3 rfl ?_
    refine r_append (c := (U5)) V.sl23 V.z5 rfl rfl rfl rfl (by exact rr0) (by exact rdH hPR mm2) (by omega) rfl ?_
    intro p39 c39
    refine rO TTDfD 6 rfl ?_
    refine o_val (v_F (v_eql rfl rfl) (by decide)) rfl ?_
    refine rO TTDfD 5 rfl ?_
    obtain ⟨f, rfl⟩ : ∃ f2, f = f2 + 1 := ⟨f - 1, by omega⟩
    have hnx := DefP.stF_more hO hZ
    have hle : (O ++ [0, (65535 : Int) % 256, (65535 : Int) / 256, 255 - (65535 : Int) % 256, 255 - (65535 : Int) / 256] ++ Z.take 65535).length = O.length + 5 + 65535 := by simp; omega
    have hdl : (Z.drop 65535).length = Z.length - 65535 := List.length_drop
    rw [← hdl, ← hle]
    exact j7 f _ _ (Z.drop 65535) _ _ _ ⟨⟨hnx, by omega, by rw [hdl]; exact rdr_drop hZR rfl 65535 cz (by omega) hZc, by omega, by omega, by omega⟩, by omega⟩ (.cons rfl (.cons rfl (.nil _))) (sub (.cons (by exact rr0) (.cons (by exact rr1) .nil)) (by exact dd1))
  ·
    refine rC TTDfD 5 rfl ?_
    refine o_val (v_to (v := .int .i64 (Z.length : Int)) (v_min rfl rfl) (by rw [if_neg (by omega)])) rfl ?_
    refine o_val (v_slice0 Z.length cz V.sl23 rfl ⟨_, rfl⟩ rfl (by omega) (by omega)) rfl ?_
    refine rO TTDfD 8 rfl ?_
    refine o_val (v_slice Z.length Z.length cz V.sl23 rfl ⟨_, rfl⟩ ⟨rfl, rfl⟩ rfl (by omega) (by omega) (by omega)) rfl ?_
    refine rO TTDfD 13 rfl ?_
    refine o_val (v_T (v_eql rfl rfl) (by omega)) rfl ?_
    refine rO TTDfD 19 rfl ?_
    refine o_val (v_conv V.u3 Try.underlying5 rfl (BitP.u8_mod (Z.length : Int))) rfl ?_
    refine o_val (v_move rfl) rfl ?_
    refine o_val (v_shr (r := (Z.length : Int) / 256) rfl rfl (by omega) (BitP.shrI (k := 8) (by decide) rfl)) rfl ?_
    refine o_val (v_conv V.u3 Try.underlying5 rfl (wrap8 (by omega) (by omega))) rfl ?_
    refine o_val (v_move rfl) rfl ?_
    refine o_val (v_compl (r := -(Z.length : Int) - 1) rfl (BitP.compl64 (by omega) (by omega))) rfl ?_
    refine o_val (v_conv V.u3 Try.underlying5 rfl ((BitP.u8_mod _).trans (show (-(Z.length : Int) - 1) % 256 = 255 - (Z.length : Int) % 256 from by omega))) rfl ?_
    refine o_val (v_move rfl) rfl ?_
    refine o_val (v_compl (r := -(Z.length : Int) - 1) rfl (BitP.compl64 (by omega) (by omega))) rfl ?_
    refine o_val (v_shr (r := (-(Z.length : Int) - 1) / 256) rfl rfl (by omega) (BitP.shrI (k := 8) (by decide) rfl)) rfl ?_
    refine o_val (v_conv V.u3 Try.underlying5 rfl ((BitP.u8_mod _).trans (show ((-(Z.length : Int) - 1) / 256) % 256 = 255 - (Z.length : Int) / 256 from by omega))) rfl ?_
    refine r_build (U5) [1, (Z.length : Int) % 256, (Z.length : Int) / 256, 255 - (Z.length : Int) % 256, 255 - (Z.length : Int) / 256] V.sl23 V.z5 rfl rfl rfl rfl rfl rfl ?_
    intro b35
    refine r_append (c := (U5)) V.sl23 V.z5 rfl rfl rfl rfl (by exact rr1) (by exact own mm0) (by omega) rfl ?_
    intro p36 c36
    refine rO TTDfD 7 rfl ?_
    refine r_append (c := (U5)) V.sl23 V.z5 rfl rfl rfl rfl (by exact rr0) (by exact rdH hZR mm2) (by omega) rfl ?_
    intro p39 c39
    refine rO TTDfD 6 rfl ?_
    refine o_val (v_T (v_eql rfl rfl) (by decide)) rfl ?_
    refine rO TTDfD 13 rfl ?_
    have hnx := DefP.stF_last hO (by omega)
    have hle : (O ++ [1, (Z.length : Int) % 256, (Z.length : Int) / 256, 255 - (Z.length : Int) % 256, 255 - (Z.length : Int) / 256] ++ Z).length = O.length + 5 + Z.length := by simp; omega
    rw [hnx] at hle
    rw [← hle, hnx]
    exact ret_ok (G := [Row U5 _ (DefP.stF B).length _ (DefP.stF B), R]) (res1 rfl) ⟨_, _, rfl, rfl⟩ (sub (.cons (by exact rr0) (.cons (by exact rr1) .nil)) (by exact dd1))
end Go.Proofs.Ythmgkggpipnalaa

/-
  Steps of the proof: walks of functions that the statement reaches; printed by a program of ours.
-/
namespace Go.Proofs.Ythmgkggpipnalaa
open Go.Sl 
set_option linter.unusedVariables false
theorem TTDfE : okT Try.prog ⟨[82], [(90, 0, 0)]⟩ = true := by kernel_rfl
set_option linter.unusedSimpArgs false

attribute [local irreducible] HuffP.newE HuffP.ord HuffP.cntL HuffP.words HuffP.mostL HuffP.wb HuffP.lkB HuffP.lkN HuffP.lkW DefP.toksB InfP.fixL BitP.lowB DefP.byB DefP.rarF DefP.cntA DefP.fA DefP.fB PkM.lenF


abbrev Q2 : Ec (Int × Int) := ⟨81, 2, fun x => [.int .i64 x.1, .int .i64 x.2], (0, 0), fun _ => rfl, fun _ => rfl⟩
theorem c_outD (b : Nat) (bs : List Int) (hl : bs.length < 500000000) : Ctr Try.prog 41 [.pointer (some ⟨b, 0, none⟩)] [WB b bs] (Ret fun v G => ∃ q c, v = .slice q (DefP.byB bs).length c ∧ G = [Row U5 q (DefP.byB bs).length c (DefP.byB bs)]) := by
  refine (c_outW b bs hl).mono ?_
  rintro e G ⟨v, rfl, out, fr, q, c, h1, h2, h3, h4⟩
  have := DefP.pk_byB h1 h2
  subst this
  exact ⟨v, rfl, q, c, h3, h4⟩
theorem k_rowI (x y : Int) (hy : 0 ≤ y ∧ y < 200) : Ctr Try.prog 38 [.int .i64 x, .int .i64 y] [] (Ret fun v G => ∃ q c, v = .slice q y.toNat c ∧ G = [Row I3 q y.toNat c (List.replicate y.toNat x)]) := by
  obtain ⟨n, rfl⟩ : ∃ n : Nat, y = (n : Int) := ⟨y.toNat, by omega⟩
  exact k_row x n (by omega)


set_option maxHeartbeats 4000000 in
set_option maxRecDepth 100000 in
theorem k_fixed (q : Option Addr) (cq : Nat) (l : List DefP.Tok) (RT : HProp) (hRT : ∀ w0 h, RT w0 h → RdR TK q l.length l w0 h) (hok : ∀ t ∈ l, DefP.TokOk t) (hl : l.length ≤ 4194304) : Ctr Try.prog 34 [.slice q l.length cq] [RT] (Ret fun v G => ∃ q c, v = .slice q (DefP.fxS l).length c ∧ G = [Row U5 q (DefP.fxS l).length c (DefP.fxS l), RT]) := by
  refine spec_of [(0, _)] Try.func34 rfl Try.ntmps34 rfl rfl ?_
  intro w0 F
  refine rT TTDfE 13 rfl ?_
  refine o_val (v_buildA V.ar81 V.z81 rfl (cs := [_, _]) rfl) rfl ?_
  refine o_val (v_buildA V.ar81 V.z81 rfl (cs := [_, _]) rfl) rfl ?_
  refine o_val (v_buildA V.ar81 V.z81 rfl (cs := [_, _]) rfl) rfl ?_
  refine o_val (v_buildA V.ar81 V.z81 rfl (cs := [_, _]) rfl) rfl ?_
  refine r_build (Q2) InfP.fixT V.sl82 V.z81 rfl rfl rfl rfl rfl rfl ?_
  intro b11
  refine rO TTDfE 5 rfl ?_
  refine w_add0 (Row I3 none 0 0 (InfP.fixK 0)) (Row.nil _ _ _) ?_
  refine w_loop3 (fun (k : Nat) (pr : Option Addr) (cr : Nat) => [(0, .slice q l.length cq), (3, .slice pr (InfP.fixK k).length cr), (11, .slice (some ⟨b11, 0, none⟩) 4 4), (12, .int .i64 4), (13, .int .i64 (k : Int))]) (fun (k : Nat) (pr : Option Addr) (cr : Nat) => Row I3 pr (InfP.fixK k).length cr (InfP.fixK k) :: Row Q2 (some ⟨b11, 0, none⟩) 4 4 InfP.fixT :: RT :: F) (fun (k : Nat) (pr : Option Addr) (cr : Nat) => k ≤ 4) (fun (k : Nat) (pr : Option Addr) (cr : Nat) => 4 - k) (i3 (0) (none) (0) ?_ (.cons rfl (.cons rfl (.cons rfl (.cons rfl (.cons rfl (.nil _)))))) (sub (.cons (by exact rr0) (.cons (by exact rr0) (.cons (by exact rr0) .nil))) (by exact dd0))) ?_
  ·
    exact Nat.zero_le _
  intro k pr cr
  rintro hk
  refine rL TTDfE 6 rfl ?_
  refine w_condD rfl (fun h14 => ?_) (fun h14 => ?_)
  ·
    refine rC TTDfE 6 rfl ?_
    refine o_val (r_index (c := (Q2)) V.sl82 rfl rfl (by exact own mm1) (by omega) (by omega)) rfl ?_
    refine o_val (r_loadA (c := (Q2)) V.a81 rfl (by exact own mm1) (by omega) (by omega) rfl) rfl ?_
    refine o_alloc V.z81 rfl ?_
    intro b5
    refine o_eff (v_storeAgg V.a81 rfl rfl (us := [_, _]) rfl rfl (by exact pp0) (by exact Nat.le_of_ble_eq_true rfl) rfl) ?_
    refine rO TTDfE 2 rfl ?_
    have hf1 : 0 ≤ (Q2.g InfP.fixT (k : Int)).2 ∧ (Q2.g InfP.fixT (k : Int)).2 < 200 := InfP.fixT_g (by omega)
    have hf2 := InfP.fixK_le k (by omega)
    refine rC TTDfE 2 rfl ?_
    refine o_val (v_indexA 0 rfl V.ar81 rfl rfl (by omega)) rfl ?_
    refine o_val (v_load V.s3 rfl (by exact mm0) rfl) rfl ?_
    refine o_val (v_indexA 1 rfl V.ar81 rfl rfl (by omega)) rfl ?_
    refine o_val (v_load V.s3 rfl (by exact mm0) rfl) rfl ?_
    refine o_call (k_rowI (Q2.g InfP.fixT (k : Int)).1 (Q2.g InfP.fixT (k : Int)).2 (by omega)) V.b38  rfl .nil rfl ?_
    rintro _ _ ⟨p22, c22, rfl, rfl⟩
    refine r_append (c := (I3)) V.sl34 V.z3 rfl rfl rfl rfl (by exact rr2) (by exact own mm0) (by omega) rfl ?_
    intro p23 c23
    refine rOs TTDfE 8 rfl (by omega) ?_
    have hst : InfP.fixK (k + 1) = InfP.fixK k ++ List.replicate (Q2.g InfP.fixT (k : Int)).2.toNat (Q2.g InfP.fixT (k : Int)).1 := InfP.fixK_succ k
    have hsl : (InfP.fixK (k + 1)).length = (InfP.fixK k).length + (Q2.g InfP.fixT (k : Int)).2.toNat := by rw [hst, List.length_append, List.length_replicate]
    rw [← hst, ← hsl]
    refine j3 (k + 1) (_) (_) ?_ (.cons rfl (.cons rfl (.cons rfl (.cons rfl (.cons rfl (.nil _)))))) (sub (.cons (by exact rr0) (.cons (by exact rr2) (.cons (by exact rr2) .nil))) (by exact dd2))
    exact ⟨by omega, by omega⟩
  ·
    refine rC TTDfE 6 rfl ?_
    have hk4 : k = 4 := by omega
    have hfl : HuffP.newE (InfP.fixK k) = 0 := by rw [hk4, InfP.fixK_4]; exact InfP.fixL_ok
    have hFi : DefP.Fits (InfP.fixK k) (List.replicate 32 5) l := by rw [hk4, InfP.fixK_4]; exact DefP.fFits hok
    have hfx : DefP.byB ([] ++ BitP.lowB 1 1 ++ BitP.lowB 1 2 ++ (DefP.toksB (InfP.fixK k) (List.replicate 32 5) l ++ HuffP.wb (InfP.fixK k) 256)) = DefP.fxS l := by rw [hk4, InfP.fixK_4, List.nil_append]; rfl
    have hWl : (([] ++ BitP.lowB 1 1 ++ BitP.lowB 1 2 ++ (DefP.toksB (InfP.fixK k) (List.replicate 32 5) l ++ HuffP.wb (InfP.fixK k) 256))).length < 500000000 := by
      have h1 := DefP.toksB_len (HuffP.newE_vl hfl).1 (HuffP.newE_vl InfP.fixD_ok).1 (l := l) hok
      have h2 := HuffP.lkN_le (HuffP.newE_vl hfl).1 256
      simp only [List.nil_append, List.length_append, BitP.lowB_len, HuffP.wb_len]
      show 1 + 2 + ((DefP.toksB (InfP.fixK k) InfP.fixD l).length + _) < _
      omega
    refine w_region ?_
    refine o_val (v_build V.pl88 V.z88 rfl (cs := [_, _, _, _]) rfl) rfl ?_
    refine o_box rfl (cs := [_, _, _, _]) rfl rfl ?_
    intro b26
    refine o_val (v_move rfl) rfl ?_
    refine o_call (k_row 5 32 (by omega)) V.b38  rfl .nil rfl ?_
    rintro _ _ ⟨p28, c28, rfl, rfl⟩
    refine o_val (v_build V.pl90 V.z90 rfl (cs := [_, _, _]) rfl) rfl ?_
    refine o_alloc V.z90 rfl ?_
    intro b6
    refine o_eff (v_storeAgg V.a90 rfl rfl (us := [_, _, _]) rfl rfl (by exact pp0) (by exact Nat.le_of_ble_eq_true rfl) rfl) ?_
    refine rO TTDfE 3 rfl ?_
    refine w_imp (A := Cel b26 88 [.slice none 0 0, .slice none 0 0, .int .i64 0, .int .i64 0]) (B := WB b26 []) (by exact rr2) (fun h hh => wb_new hh) ?_
    refine rC TTDfE 2 rfl ?_
    refine o_val (v_load V.s84 rfl (by exact mm1) rfl) rfl ?_
    refine o_call (c_put b26 [] 1 1 (by decide) (by omega) (by decide)) V.b39  rfl (.cons (by exact rr0) .nil) rfl ?_
    rintro _ _ ⟨rfl, rfl⟩
    refine rO TTDfE 5 rfl ?_
    refine o_val (v_load V.s84 rfl (by exact mm1) rfl) rfl ?_
    refine o_call (c_put b26 ([] ++ BitP.lowB 1 1) 1 2 (by decide) (by omega) (by simp only [List.nil_append, BitP.lowB_len]; decide)) V.b39  rfl (.cons (by exact rr0) .nil) rfl ?_
    rintro _ _ ⟨rfl, rfl⟩
    refine rO TTDfE 4 rfl ?_
    refine o_val (v_loadAgg V.a90 rfl (by exact mm1) (vs := [_, _, _]) rfl rfl) rfl ?_
    refine o_val (v_move rfl) rfl ?_
    refine o_call (k_write b26 pr (InfP.fixK k) cr p28 (List.replicate 32 5) c28 q cq l ([] ++ BitP.lowB 1 1 ++ BitP.lowB 1 2) RT (Row I3 pr (InfP.fixK k).length cr (InfP.fixK k)) (Row I3 p28 32 c28 (List.replicate 32 5)) hRT (fun _ _ hh => row_rd rfl hh) (fun _ _ hh => row_rd rfl hh) hfl InfP.fixD_ok hFi hl (by simp only [List.nil_append, List.length_append, BitP.lowB_len]; omega)) V.b40  rfl (.cons (by exact rr0) (.cons (by exact rr4) (.cons (by exact rr2) (.cons (by exact rr1) .nil)))) rfl ?_
    rintro _ _ ⟨rfl, rfl⟩
    refine rO TTDfE 5 rfl ?_
    refine o_val (v_load V.s84 rfl (by exact mm4) rfl) rfl ?_
    refine o_call (c_outD b26 ([] ++ BitP.lowB 1 1 ++ BitP.lowB 1 2 ++ (DefP.toksB (InfP.fixK k) (List.replicate 32 5) l ++ HuffP.wb (InfP.fixK k) 256)) hWl) V.b41  rfl (.cons (by exact rr0) .nil) rfl ?_
    rintro _ _ ⟨q41, c41, rfl, rfl⟩
    refine rO TTDfE 4 rfl ?_
    rw [hfx]
    exact ret_ok (G := [Row U5 q41 (DefP.fxS l).length c41 (DefP.fxS l), RT]) (res1 rfl) ⟨q41, c41, rfl, rfl⟩ (sub (.cons (by exact rr0) (.cons (by exact rr0) .nil)) (by exact dd4))
end Go.Proofs.Ythmgkggpipnalaa

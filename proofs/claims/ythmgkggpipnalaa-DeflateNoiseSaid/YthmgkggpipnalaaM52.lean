/- Steps of the proof: the walks of the functions that the statement reaches; printed by a program of ours. -/
import Derived.Test.YthmgkggpipnalaaSl22
import Derived.KernelRfl
import Derived.Test.YthmgkggpipnalaaM48
import Derived.Test.YthmgkggpipnalaaM31
import Derived.Test.YthmgkggpipnalaaM51
import Derived.Test.YthmgkggpipnalaaM32
/-
  Steps of the proof: walks of functions that the statement reaches; printed by a program of ours.
-/
namespace Go.Proofs.Ythmgkggpipnalaa
open Go.Sl 
set_option linter.unusedVariables false
theorem TTDfJ : okT Try.prog ⟨[23], []⟩ = true := by kernel_rfl
set_option linter.unusedSimpArgs false

attribute [local irreducible] DefP.shF InfP.Res DefP.most DefP.nzV DefP.nxR List.replicate BitP.Byt


theorem m_allN (p : Option Addr) (c n : Nat) (B : List Int) (R : HProp) (hR : ∀ w0 h, R w0 h → RdR U5 p n B w0 h) (hn : B.length = n) (hl : n ≤ 4194304) (hB : BitP.Byt B) : Ctr Try.prog 11 [.slice p n c] [R] (Ret fun v G => ∃ q c, v = .slice q (DefP.shF B).length c ∧ G = [Row U5 q (DefP.shF B).length c (DefP.shF B), R]) := by
  subst hn
  exact m_all p c B R hR hl hB
theorem d_infZ (q : Option Addr) (c : Nat) (B : List Int) (hg : DefP.Gd B) (mo : Int) (hm : mo = (B.length : Int)) (hl : B.length ≤ 4194304) : Ctr Try.prog 12 [.slice q (DefP.shF B).length c, .int .i64 mo] [Row U5 q (DefP.shF B).length c (DefP.shF B)] (Ret fun v G => ∃ qq cq, v = .tuple #[.slice qq B.length cq, .int .i64 ((DefP.shF B).length : Int), .int .i64 0] ∧ G = [Row U5 qq B.length cq B, Row U5 q (DefP.shF B).length c (DefP.shF B)]) := by
  subst hm
  exact d_inf q c (DefP.shF B) (Row U5 q (DefP.shF B).length c (DefP.shF B)) (fun _ _ hh => hh.rd) (by have := hg.zb; omega) hg.byt _ (by omega) (B, ((DefP.shF B).length : Int), 0) hg.res


set_option maxHeartbeats 2000000 in
set_option maxRecDepth 100000 in
theorem l_awake  : Ctr Try.prog 9 [] [] (Ret fun v G => v = .bool true ∧ G = []) := by
  refine spec_of [] Try.func9 rfl Try.ntmps9 rfl rfl ?_
  intro w0 F
  obtain ⟨Z, hZ⟩ : ∃ Z : List Int, Z = List.replicate 2000 0 := ⟨_, rfl⟩
  have hZl : Z.length = 2000 := by rw [hZ, List.length_replicate]
  have hZB : BitP.Byt Z := by rw [hZ]; exact DefP.byt_rep 2000 (by decide)
  have hg := DefP.gd hZB (by omega)
  have h264 := DefP.zeros_264 hZ
  refine rT TTDfJ 7 rfl ?_
  refine r_makeN 2000 2000 (U5) rfl rfl V.sl23 V.z5 rfl rfl rfl rfl (by omega) (by omega) rfl rfl ?_
  intro b6
  refine rO TTDfJ 4 rfl ?_
  rw [show List.replicate 2000 U5.d = Z from hZ.symm]
  refine rC TTDfJ 2 rfl ?_
  refine o_call (m_allN (some ⟨b6, 0, none⟩) 2000 2000 Z (Row U5 (some ⟨b6, 0, none⟩) 2000 2000 Z) (fun _ _ hh => hh.rd) hZl (by omega) hZB) V.b11  rfl (.cons (by exact rr0) .nil) rfl ?_
  rintro _ _ ⟨q7, c7, rfl, rfl⟩
  refine rO TTDfJ 6 rfl ?_
  refine o_call (d_infZ q7 c7 Z hg 2000 (by omega) (by omega)) V.b12  rfl (.cons (by exact rr0) .nil) rfl ?_
  rintro _ _ ⟨q11, c11, rfl, rfl⟩
  refine rO TTDfJ 12 rfl ?_
  refine o_val (v_T (v_eql rfl rfl) rfl) rfl ?_
  refine rO TTDfJ 4 rfl ?_
  refine o_want rfl ?_
  refine o_val (v_T (v_eql rfl rfl) rfl) rfl ?_
  refine rO TTDfJ 4 rfl ?_
  refine o_want rfl ?_
  refine o_val (v_T (v_eql rfl rfl) (by omega)) rfl ?_
  refine rO TTDfJ 4 rfl ?_
  refine o_want rfl ?_
  refine o_val (v_T (v_leq rfl rfl) (by omega)) rfl ?_
  refine rO TTDfJ 2 rfl ?_
  refine o_want rfl ?_
  refine o_call (m_most 0 (by decide)) V.b13  rfl .nil rfl ?_
  rintro _ _ ⟨rfl, rfl⟩
  refine o_want rfl ?_
  refine o_val (v_T (v_eql rfl rfl) (by rw [DefP.most_eq (by decide)]; decide)) rfl ?_
  refine rO TTDfJ 5 rfl ?_
  exact ret_ok (G := []) (res1 rfl) ⟨rfl, rfl⟩ (sub .nil (by exact dd3))


end Go.Proofs.Ythmgkggpipnalaa

/-
  Steps of the proof: walks of functions that the statement reaches; printed by a program of ours.
-/
namespace Go.Proofs.Ythmgkggpipnalaa
open Go.Sl 
set_option linter.unusedVariables false
theorem TTDfK : okT Try.prog ⟨[23], []⟩ = true := by kernel_rfl
set_option linter.unusedSimpArgs false

attribute [local irreducible] DefP.shF InfP.Res DefP.most DefP.nzV DefP.nxR BitP.Byt

set_option maxHeartbeats 2000000 in
set_option maxRecDepth 100000 in
theorem l_noise (x0 : Int) (n : Nat) (hn : n < 65536) (kd : Int) (hkd : 0 ≤ kd ∧ kd < 256) : Ctr Try.prog 8 [.int .u32 x0, .int .u16 (n : Int), .int .u8 kd] [] (Ret fun v G => v = .bool true ∧ G = []) := by
  refine spec_of [(0, _), (1, _), (2, _)] Try.func8 rfl Try.ntmps8 rfl rfl ?_
  intro w0 F
  refine rT TTDfK 8 rfl ?_
  refine o_call (l_awake) V.b9  rfl .nil rfl ?_
  rintro _ _ ⟨rfl, rfl⟩
  refine rO TTDfK 24 rfl ?_
  refine w_add0 (Row U5 none 0 0 []) (Row.nil _ _ _) ?_
  refine w_loop5 (fun (i : Nat) (x : Int) (ql : Option Addr) (cl : Nat) (l : List Int) => [(1, .int .u16 (n : Int)), (2, .int .u8 kd), (7, .int .u32 x), (8, .slice ql l.length cl), (9, .int .i64 (i : Int))]) (fun (i : Nat) (x : Int) (ql : Option Addr) (cl : Nat) (l : List Int) => Row U5 ql l.length cl l :: F) (fun (i : Nat) (x : Int) (ql : Option Addr) (cl : Nat) (l : List Int) => l.length = i ∧ BitP.Byt l ∧ i ≤ n) (fun (i : Nat) (x : Int) (ql : Option Addr) (cl : Nat) (l : List Int) => n - i) (i5 (0) (x0) (none) (0) ([]) ?_ (.cons rfl (.cons rfl (.cons rfl (.cons rfl (.cons rfl (.nil _)))))) (sub (.cons (by exact rr0) .nil) (by exact dd0))) ?_
  ·
    exact ⟨rfl, (by unfold BitP.Byt; intro x hx; cases hx), Nat.zero_le _⟩
  intro i x ql cl l
  rintro ⟨hli, hlB, hi⟩
  refine rL TTDfK 5 rfl ?_
  refine o_val (v_conv V.u40 Try.underlying3 rfl (wrapI (by omega) (by omega))) rfl ?_
  refine rO TTDfK 3 rfl ?_
  refine w_condD rfl (fun h21 => ?_) (fun h21 => ?_)
  ·
    refine rC TTDfK 7 rfl ?_
    refine o_val (v_mul rfl rfl rfl) rfl ?_
    refine o_val (v_to (v := .int .u32 (DefP.nxR x)) (v_add rfl rfl rfl) (by unfold DefP.nxR; rfl)) rfl ?_
    refine rO TTDfK 6 rfl ?_
    refine o_val (v_shr rfl rfl (by decide) rfl) rfl ?_
    refine o_val (v_to (v := .int .u8 (DefP.nzV (DefP.nxR x))) (v_conv V.u43 Try.underlying5 rfl rfl) (by unfold DefP.nzV; rfl)) rfl ?_
    refine rO TTDfK 3 rfl ?_
    rcases (Classical.em (0 < kd)) with hk0 | hk0
    ·
      refine rC TTDfK 2 rfl ?_
      have hv := DefP.nzV_in (DefP.nxR x)
      refine rC TTDfK 2 rfl ?_
      refine o_val (v_T (v_gtr rfl rfl) hk0) rfl ?_
      refine rO TTDfK 3 rfl ?_
      have hv2 : 0 ≤ ((DefP.nzV (DefP.nxR x)) % kd) ∧ ((DefP.nzV (DefP.nxR x)) % kd) < kd := ⟨Int.emod_nonneg _ (by omega), Int.emod_lt_of_pos _ hk0⟩
      refine rC TTDfK 3 rfl ?_
      refine o_val (v_rem (r := ((DefP.nzV (DefP.nxR x)) % kd)) rfl rfl (by omega) (remI (by omega))) rfl ?_
      refine rO TTDfK 6 rfl ?_
      refine r_build (U5) [((DefP.nzV (DefP.nxR x)) % kd)] V.sl23 V.z5 rfl rfl rfl rfl rfl rfl ?_
      intro b37
      refine r_append (c := (U5)) V.sl23 V.z5 rfl rfl rfl rfl (by exact rr1) (by exact own mm0) (by omega) rfl ?_
      intro p38 c38
      refine rOs TTDfK 9 rfl (by omega) ?_
      (rw [show l.length + 1 = (l ++ [((DefP.nzV (DefP.nxR x)) % kd)]).length from by rw [List.length_append]; rfl]; exact j5 (i + 1) _ _ _ (l ++ [((DefP.nzV (DefP.nxR x)) % kd)]) ⟨⟨by rw [List.length_append, hli]; rfl, DefP.Byt.snoc hlB (by omega), by omega⟩, by omega⟩ (.cons rfl (.cons rfl (.cons rfl (.cons rfl (.cons rfl (.nil _)))))) (sub (.cons (by exact rr0) .nil) (by exact dd1)))
    ·
      refine rC TTDfK 2 rfl ?_
      have hv := DefP.nzV_in (DefP.nxR x)
      refine rC TTDfK 2 rfl ?_
      refine o_val (v_F (v_gtr rfl rfl) hk0) rfl ?_
      refine rO TTDfK 8 rfl ?_
      refine r_build (U5) [(DefP.nzV (DefP.nxR x))] V.sl23 V.z5 rfl rfl rfl rfl rfl rfl ?_
      intro b37
      refine r_append (c := (U5)) V.sl23 V.z5 rfl rfl rfl rfl (by exact rr1) (by exact own mm0) (by omega) rfl ?_
      intro p38 c38
      refine rOs TTDfK 9 rfl (by omega) ?_
      (rw [show l.length + 1 = (l ++ [(DefP.nzV (DefP.nxR x))]).length from by rw [List.length_append]; rfl]; exact j5 (i + 1) _ _ _ (l ++ [(DefP.nzV (DefP.nxR x))]) ⟨⟨by rw [List.length_append, hli]; rfl, DefP.Byt.snoc hlB (by omega), by omega⟩, by omega⟩ (.cons rfl (.cons rfl (.cons rfl (.cons rfl (.cons rfl (.nil _)))))) (sub (.cons (by exact rr0) .nil) (by exact dd1)))
  ·
    refine rC TTDfK 6 rfl ?_
    have hg := DefP.gd hlB (by omega)
    have hgm := hg.most
    rw [← DefP.most_eq (by omega)] at hgm
    refine rC TTDfK 2 rfl ?_
    refine o_call (m_all ql cl l (Row U5 ql l.length cl l) (fun _ _ hh => hh.rd) (by omega) hlB) V.b11  rfl (.cons (by exact rr0) .nil) rfl ?_
    rintro _ _ ⟨q40, c40, rfl, rfl⟩
    refine rO TTDfK 8 rfl ?_
    refine o_call (d_infZ q40 c40 l hg (l.length : Int) rfl (by omega)) V.b12  rfl (.cons (by exact rr0) .nil) rfl ?_
    rintro _ _ ⟨q45, c45, rfl, rfl⟩
    refine rO TTDfK 12 rfl ?_
    refine o_val (v_T (v_eql rfl rfl) rfl) rfl ?_
    refine rO TTDfK 4 rfl ?_
    refine o_want rfl ?_
    refine o_val (v_T (v_eql rfl rfl) rfl) rfl ?_
    refine rO TTDfK 3 rfl ?_
    refine o_want rfl ?_
    refine o_val (v_str (T := 5) Try.underlying23 Try.underlying5 Try.underlying9 rfl (by exact own mm0)) rfl ?_
    refine o_want rfl ?_
    refine o_val (v_move rfl) rfl ?_
    refine o_want rfl ?_
    refine o_val (v_str (T := 5) Try.underlying23 Try.underlying5 Try.underlying9 rfl (by exact own mm2)) rfl ?_
    refine o_want rfl ?_
    refine o_val (v_sself rfl rfl) rfl ?_
    refine rO TTDfK 6 rfl ?_
    refine o_want rfl ?_
    refine o_call (m_most (l.length : Int) (by omega)) V.b13  rfl .nil rfl ?_
    rintro _ _ ⟨rfl, rfl⟩
    refine o_want rfl ?_
    refine o_val (v_T (v_leq rfl rfl) hgm) rfl ?_
    refine rO TTDfK 5 rfl ?_
    exact ret_ok (G := []) (res1 rfl) ⟨rfl, rfl⟩ (sub .nil (by exact dd3))
end Go.Proofs.Ythmgkggpipnalaa

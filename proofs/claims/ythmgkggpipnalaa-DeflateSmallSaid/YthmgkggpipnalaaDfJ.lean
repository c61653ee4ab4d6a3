/-
  Steps of the proof: walks of functions that the statement reaches; printed by a program of ours.
-/
import Derived.Test.YthmgkggpipnalaaSl22
import Derived.KernelRfl
import Derived.Test.YthmgkggpipnalaaM48
import Derived.Test.YthmgkggpipnalaaM31
import Derived.Test.YthmgkggpipnalaaM51
import Derived.Test.YthmgkggpipnalaaM32
namespace Go.Proofs.Ythmgkggpipnalaa
open Go.Sl 
set_option linter.unusedVariables false
theorem TTDfJ : okT Try.prog ⟨[23], []⟩ = true := by kernel_rfl
set_option linter.unusedSimpArgs false

attribute [local irreducible] DefP.shF InfP.Res DefP.most DefP.nzV DefP.nxR List.replicate BitP.Byt


theorem m_allN (p : Option Addr) (c n : Nat) (B : List Int) (R : HProp) (hR : ∀ w0 h, R w0 h → RdR U5 p n B w0 h) (hn : B.length = n) (hl : n ≤ 4194304) (hB : BitP.Byt B) : Ctr Try.prog 11 [.slice p n c] [R] (Ret fun v G => ∃ q c, v = .slice q (DefP.shF B).length c ∧ G = [Row U5 q (DefP.shF B).length c (DefP.shF B), R]) := by
  subst hn
  exact m_all p c B R hR hl hB
theorem d_infZ (q : Option Addr) (c : Nat) (B : List Int) (hg : DefP.Gd B) (mo : Int) (hm : mo = (B.length : Int)) (hl : B.length ≤ 4194304) : Ctr Try.prog 12 [.slice q (DefP.shF B).length c, .int .i64 mo] [Row U5 q (DefP.shF B).length c (DefP.shF B)] (Ret fun v G => ∃ qq cq, v = .tuple #[.slice qq B.length cq, .int .i64 ((DefP.shF B).length : Int), .int .i64 0] ∧ G = [Row U5 qq B.length cq B, Row U5 q (DefP.shF B).length c (DefP.shF B)]) := by
  subst hm
  exact d_inf q c (DefP.shF B) (Row U5 q (DefP.shF B).length c (DefP.shF B)) (fun _ _ hh => hh.rd) (by have := hg.zb; omega) hg.byt _ (by omega) (B, ((DefP.shF B).length : Int), 0) hg.res


set_option maxHeartbeats 2000000 in
set_option maxRecDepth 100000 in
theorem l_awake  : Ctr Try.prog 9 [] [] (Ret fun v G => v = .bool true ∧ G = []) := by
  refine spec_of [] Try.func9 rfl Try.ntmps9 rfl rfl ?_
  intro w0 F
  obtain ⟨Z, hZ⟩ : ∃ Z : List Int, Z = List.replicate 2000 0 := ⟨_, rfl⟩
  have hZl : Z.length = 2000 := by rw [hZ, List.length_replicate]
  have hZB : BitP.Byt Z := by rw [hZ]; exact DefP.byt_rep 2000 (by decide)
  have hg := DefP.gd hZB (by omega)
  have h264 := DefP.zeros_264 hZ
  refine rT TTDfJ 7 rfl ?_
  refine r_makeN 2000 2000 (U5) rfl rfl V.sl23 V.z5 rfl rfl rfl rfl (by omega) (by omega) rfl rfl ?_
  intro b6
  refine rO TTDfJ 4 rfl ?_
  rw [show List.replicate 2000 U5.d = Z from hZ.symm]
  refine rC TTDfJ 2 rfl ?_
  refine o_call (m_allN (some ⟨b6, 0, none⟩) 2000 2000 Z (Row U5 (some ⟨b6, 0, none⟩) 2000 2000 Z) (fun _ _ hh => hh.rd) hZl (by omega) hZB) V.b11  rfl (.cons (by exact rr0) .nil) rfl ?_
  rintro _ _ ⟨q7, c7, rfl, rfl⟩
  refine rO TTDfJ 6 rfl ?_
  refine o_call (d_infZ q7 c7 Z hg 2000 (by omega) (by omega)) V.b12  rfl (.cons (by exact rr0) .nil) rfl ?_
  rintro _ _ ⟨q11, c11, rfl, rfl⟩
  refine rO TTDfJ 12 rfl ?_
  refine o_val (v_T (v_eql rfl rfl) rfl) rfl ?_
  refine rO TTDfJ 4 rfl ?_
  refine o_want rfl ?_
  refine o_val (v_T (v_eql rfl rfl) rfl) rfl ?_
  refine rO TTDfJ 4 rfl ?_
  refine o_want rfl ?_
  refine o_val (v_T (v_eql rfl rfl) (by omega)) rfl ?_
  refine rO TTDfJ 4 rfl ?_
  refine o_want rfl ?_
  refine o_val (v_T (v_leq rfl rfl) (by omega)) rfl ?_
  refine rO TTDfJ 2 rfl ?_
  refine o_want rfl ?_
  refine o_call (m_most 0 (by decide)) V.b13  rfl .nil rfl ?_
  rintro _ _ ⟨rfl, rfl⟩
  refine o_want rfl ?_
  refine o_val (v_T (v_eql rfl rfl) (by rw [DefP.most_eq (by decide)]; decide)) rfl ?_
  refine rO TTDfJ 5 rfl ?_
  exact ret_ok (G := []) (res1 rfl) ⟨rfl, rfl⟩ (sub .nil (by exact dd3))


set_option maxHeartbeats 2000000 in
set_option maxRecDepth 100000 in
theorem l_small (b : Int) (hb : 0 ≤ b ∧ b < 256) (k : Nat) (hk : k < 65536) : Ctr Try.prog 5 [.int .u8 b, .int .u16 (k : Int)] [] (Ret fun v G => v = .bool true ∧ G = []) := by
  refine spec_of [(0, _), (1, _)] Try.func5 rfl Try.ntmps5 rfl rfl ?_
  intro w0 F
  obtain ⟨Z, hZ⟩ : ∃ Z : List Int, Z = List.replicate (1000 + k) b := ⟨_, rfl⟩
  have hZl : Z.length = (1000 + k) := by rw [hZ, List.length_replicate]
  have hZB : BitP.Byt Z := by rw [hZ]; exact DefP.byt_rep _ hb
  have hg := DefP.gd hZB (by omega)
  have hsm := DefP.sh_cst (B := Z) (by rw [hZ]; exact DefP.cst_rep _ b) hZB (by omega)
  refine rT TTDfJ 8 rfl ?_
  refine o_call (l_awake) V.b9  rfl .nil rfl ?_
  rintro _ _ ⟨rfl, rfl⟩
  refine rO TTDfJ 9 rfl ?_
  refine o_val (v_conv V.u40 Try.underlying3 rfl (wrapI (by omega) (by omega))) rfl ?_
  refine o_val (v_to (v := .int .i64 ((1000 + k : Nat) : Int)) (v_add rfl rfl (wrapI (by omega) (by omega))) (by congr 1)) rfl ?_
  refine rO TTDfJ 6 rfl ?_
  refine r_makeN (1000 + k : Nat) (1000 + k : Nat) (U5) rfl rfl V.sl23 V.z5 rfl rfl rfl rfl (by omega) (by omega) rfl rfl ?_
  intro b18
  refine rO TTDfJ 10 rfl ?_
  rw [show List.replicate (1000 + k) U5.d = (List.replicate 0 b ++ List.replicate ((1000 + k) - 0) 0) from by rw [List.replicate_zero, List.nil_append, Nat.sub_zero]]
  refine w_loop1 (fun (i : Nat) => [(0, .int .u8 b), (5, .int .i64 ((1000 + k : Nat) : Int)), (6, .slice (some ⟨b18, 0, none⟩) (1000 + k : Nat) (1000 + k : Nat)), (7, .int .i64 (i : Int))]) (fun (i : Nat) => Row U5 (some ⟨b18, 0, none⟩) (1000 + k) (1000 + k) (List.replicate i b ++ List.replicate ((1000 + k) - i) 0) :: F) (fun (i : Nat) => i ≤ (1000 + k)) (fun (i : Nat) => (1000 + k) - i) (i1 (0) ?_ (.cons rfl (.cons rfl (.cons rfl (.cons rfl (.nil _))))) (sub (.cons (by exact rr0) .nil) (by exact dd0))) ?_
  ·
    exact Nat.zero_le _
  intro i
  rintro hi
  refine rL TTDfJ 8 rfl ?_
  refine w_condD rfl (fun h21 => ?_) (fun h21 => ?_)
  ·
    refine rC TTDfJ 8 rfl ?_
    refine o_val (r_index (c := (U5)) V.sl23 rfl rfl (by exact own mm0) (by omega) (by omega)) rfl ?_
    refine o_eff (r_store (c := (U5)) (_) V.s5 rfl rfl rfl (by exact pp0) (by omega) (by omega) rfl rfl) ?_
    refine rOs TTDfJ 8 rfl (by omega) ?_
    rw [show ((i : Int)).toNat = i from rfl, DefP.rep_stepG (by omega)]
    refine j1 (i + 1) ?_ (.cons rfl (.cons rfl (.cons rfl (.cons rfl (.nil _))))) (sub (.cons (by exact rr0) .nil) (by exact dd0))
    exact ⟨by omega, by omega⟩
  ·
    refine rC TTDfJ 6 rfl ?_
    obtain rfl : i = (1000 + k) := by omega
    rw [Nat.sub_self, List.replicate_zero, List.append_nil, ← hZ]
    refine rC TTDfJ 2 rfl ?_
    refine o_call (m_allN (some ⟨b18, 0, none⟩) (1000 + k) (1000 + k) Z (Row U5 (some ⟨b18, 0, none⟩) (1000 + k) (1000 + k) Z) (fun _ _ hh => hh.rd) hZl (by omega) hZB) V.b11  rfl (.cons (by exact rr0) .nil) rfl ?_
    rintro _ _ ⟨q29, c29, rfl, rfl⟩
    refine rO TTDfJ 7 rfl ?_
    refine o_call (d_infZ q29 c29 Z hg ((1000 + k : Nat) : Int) (by omega) (by omega)) V.b12  rfl (.cons (by exact rr0) .nil) rfl ?_
    rintro _ _ ⟨q33, c33, rfl, rfl⟩
    refine rO TTDfJ 12 rfl ?_
    refine o_val (v_T (v_eql rfl rfl) rfl) rfl ?_
    refine rO TTDfJ 2 rfl ?_
    refine o_want rfl ?_
    refine o_val (v_str (T := 5) Try.underlying23 Try.underlying5 Try.underlying9 rfl (by exact own mm0)) rfl ?_
    refine o_want rfl ?_
    refine o_val (v_move rfl) rfl ?_
    refine o_want rfl ?_
    refine o_val (v_str (T := 5) Try.underlying23 Try.underlying5 Try.underlying9 rfl (by exact own mm2)) rfl ?_
    refine o_want rfl ?_
    refine o_val (v_sself rfl rfl) rfl ?_
    refine rO TTDfJ 5 rfl ?_
    refine o_want rfl ?_
    refine o_val (v_quo (r := ((1000 + k : Nat) : Int) / 10) rfl rfl (by decide) (quoI (by omega) (by omega) (by omega))) rfl ?_
    refine rOs TTDfJ 1 rfl (by omega) ?_
    refine o_want rfl ?_
    refine o_val (v_T (v_leq rfl rfl) (by omega)) rfl ?_
    refine rO TTDfJ 5 rfl ?_
    exact ret_ok (G := []) (res1 rfl) ⟨rfl, rfl⟩ (sub .nil (by exact dd3))
end Go.Proofs.Ythmgkggpipnalaa

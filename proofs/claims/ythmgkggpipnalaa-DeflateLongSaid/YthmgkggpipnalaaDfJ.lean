/-
  Steps of the proof: walks of functions that the statement reaches; printed by a program of ours.
-/
import Derived.Test.YthmgkggpipnalaaSl22
import Derived.KernelRfl
import Derived.Test.YthmgkggpipnalaaM48
import Derived.Test.YthmgkggpipnalaaM31
import Derived.Test.YthmgkggpipnalaaM51
import Derived.Test.YthmgkggpipnalaaM32
namespace Go.Proofs.Ythmgkggpipnalaa
open Go.Sl 
set_option linter.unusedVariables false
theorem TTDfJ : okT Try.prog ⟨[23], []⟩ = true := by kernel_rfl
set_option linter.unusedSimpArgs false

attribute [local irreducible] DefP.shF InfP.Res DefP.most DefP.nzV DefP.nxR List.replicate BitP.Byt


theorem m_allN (p : Option Addr) (c n : Nat) (B : List Int) (R : HProp) (hR : ∀ w0 h, R w0 h → RdR U5 p n B w0 h) (hn : B.length = n) (hl : n ≤ 4194304) (hB : BitP.Byt B) : Ctr Try.prog 11 [.slice p n c] [R] (Ret fun v G => ∃ q c, v = .slice q (DefP.shF B).length c ∧ G = [Row U5 q (DefP.shF B).length c (DefP.shF B), R]) := by
  subst hn
  exact m_all p c B R hR hl hB
theorem d_infZ (q : Option Addr) (c : Nat) (B : List Int) (hg : DefP.Gd B) (mo : Int) (hm : mo = (B.length : Int)) (hl : B.length ≤ 4194304) : Ctr Try.prog 12 [.slice q (DefP.shF B).length c, .int .i64 mo] [Row U5 q (DefP.shF B).length c (DefP.shF B)] (Ret fun v G => ∃ qq cq, v = .tuple #[.slice qq B.length cq, .int .i64 ((DefP.shF B).length : Int), .int .i64 0] ∧ G = [Row U5 qq B.length cq B, Row U5 q (DefP.shF B).length c (DefP.shF B)]) := by
  subst hm
  exact d_inf q c (DefP.shF B) (Row U5 q (DefP.shF B).length c (DefP.shF B)) (fun _ _ hh => hh.rd) (by have := hg.zb; omega) hg.byt _ (by omega) (B, ((DefP.shF B).length : Int), 0) hg.res


set_option maxHeartbeats 2000000 in
set_option maxRecDepth 100000 in
theorem l_awake  : Ctr Try.prog 9 [] [] (Ret fun v G => v = .bool true ∧ G = []) := by
  refine spec_of [] Try.func9 rfl Try.ntmps9 rfl rfl ?_
  intro w0 F
  obtain ⟨Z, hZ⟩ : ∃ Z : List Int, Z = List.replicate 2000 0 := ⟨_, rfl⟩
  have hZl : Z.length = 2000 := by rw [hZ, List.length_replicate]
  have hZB : BitP.Byt Z := by rw [hZ]; exact DefP.byt_rep 2000 (by decide)
  have hg := DefP.gd hZB (by omega)
  have h264 := DefP.zeros_264 hZ
  refine rT TTDfJ 7 rfl ?_
  refine r_makeN 2000 2000 (U5) rfl rfl V.sl23 V.z5 rfl rfl rfl rfl (by omega) (by omega) rfl rfl ?_
  intro b6
  refine rO TTDfJ 4 rfl ?_
  rw [show List.replicate 2000 U5.d = Z from hZ.symm]
  refine rC TTDfJ 2 rfl ?_
  refine o_call (m_allN (some ⟨b6, 0, none⟩) 2000 2000 Z (Row U5 (some ⟨b6, 0, none⟩) 2000 2000 Z) (fun _ _ hh => hh.rd) hZl (by omega) hZB) V.b11  rfl (.cons (by exact rr0) .nil) rfl ?_
  rintro _ _ ⟨q7, c7, rfl, rfl⟩
  refine rO TTDfJ 6 rfl ?_
  refine o_call (d_infZ q7 c7 Z hg 2000 (by omega) (by omega)) V.b12  rfl (.cons (by exact rr0) .nil) rfl ?_
  rintro _ _ ⟨q11, c11, rfl, rfl⟩
  refine rO TTDfJ 12 rfl ?_
  refine o_val (v_T (v_eql rfl rfl) rfl) rfl ?_
  refine rO TTDfJ 4 rfl ?_
  refine o_want rfl ?_
  refine o_val (v_T (v_eql rfl rfl) rfl) rfl ?_
  refine rO TTDfJ 4 rfl ?_
  refine o_want rfl ?_
  refine o_val (v_T (v_eql rfl rfl) (by omega)) rfl ?_
  refine rO TTDfJ 4 rfl ?_
  refine o_want rfl ?_
  refine o_val (v_T (v_leq rfl rfl) (by omega)) rfl ?_
  refine rO TTDfJ 2 rfl ?_
  refine o_want rfl ?_
  refine o_call (m_most 0 (by decide)) V.b13  rfl .nil rfl ?_
  rintro _ _ ⟨rfl, rfl⟩
  refine o_want rfl ?_
  refine o_val (v_T (v_eql rfl rfl) (by rw [DefP.most_eq (by decide)]; decide)) rfl ?_
  refine rO TTDfJ 5 rfl ?_
  exact ret_ok (G := []) (res1 rfl) ⟨rfl, rfl⟩ (sub .nil (by exact dd3))


theorem m_newNoN (p : Option Addr) (c n : Nat) (B : List Int) (R : HProp) (hR : ∀ w0 h, R w0 h → RdR U5 p n B w0 h) (hn : B.length = n) (hl : 4194304 < n) (hl2 : n < 500000000) : Ctr Try.prog 14 [.slice p n c] [R] (Ret fun v G => ∃ b, v = .pointer (some ⟨b, 0, none⟩) ∧ G = [DD b [], R]) := by
  subst hn
  exact m_newNo p c B R hR hl hl2
theorem m_allNoN (p : Option Addr) (c n : Nat) (B : List Int) (R : HProp) (hR : ∀ w0 h, R w0 h → RdR U5 p n B w0 h) (hn : B.length = n) (hl : 4194304 < n) (hl2 : n < 500000000) : Ctr Try.prog 11 [.slice p n c] [R] (Ret fun v G => ∃ q c, v = .slice q 0 c ∧ G = [Row U5 q 0 c [], R]) := by
  subst hn
  exact m_allNo p c B R hR hl hl2


set_option maxHeartbeats 2000000 in
set_option maxRecDepth 100000 in
theorem l_long  : Ctr Try.prog 6 [] [] (Ret fun v G => v = .bool true ∧ G = []) := by
  refine spec_of [] Try.func6 rfl Try.ntmps6 rfl rfl ?_
  intro w0 F
  obtain ⟨Z, hZ⟩ : ∃ Z : List Int, Z = List.replicate 4194305 0 := ⟨_, rfl⟩
  have hZl : Z.length = 4194305 := by rw [hZ, List.length_replicate]
  refine rT TTDfJ 8 rfl ?_
  refine o_call (l_awake) V.b9  rfl .nil rfl ?_
  rintro _ _ ⟨rfl, rfl⟩
  refine rO TTDfJ 8 rfl ?_
  refine r_makeN 4194305 4194305 (U5) rfl rfl V.sl23 V.z5 rfl rfl rfl rfl (by omega) (by omega) rfl rfl ?_
  intro b5
  refine rO TTDfJ 4 rfl ?_
  rw [show List.replicate 4194305 U5.d = Z from hZ.symm]
  refine rC TTDfJ 2 rfl ?_
  refine o_call (m_newNoN (some ⟨b5, 0, none⟩) 4194305 4194305 Z (Row U5 (some ⟨b5, 0, none⟩) 4194305 4194305 Z) (fun _ _ hh => hh.rd) hZl (by omega) (by omega)) V.b14  rfl (.cons (by exact rr0) .nil) rfl ?_
  rintro _ _ ⟨bm, rfl, rfl⟩
  refine rO TTDfJ 6 rfl ?_
  refine o_call (m_allNoN (some ⟨b5, 0, none⟩) 4194305 4194305 Z (Row U5 (some ⟨b5, 0, none⟩) 4194305 4194305 Z) (fun _ _ hh => hh.rd) hZl (by omega) (by omega)) V.b11  rfl (.cons (by exact rr1) .nil) rfl ?_
  rintro _ _ ⟨q9, c9, rfl, rfl⟩
  refine o_val (v_len (ty' := 0) Try.underlying23 rfl) rfl ?_
  refine o_val (v_T (v_eql rfl rfl) rfl) rfl ?_
  refine rO TTDfJ 2 rfl ?_
  refine o_want rfl ?_
  refine o_val (v_to (v := .bool true) (v_nenil Try.underlying35 rfl rfl) rfl) rfl ?_
  refine rO TTDfJ 3 rfl ?_
  refine o_want rfl ?_
  refine o_call (m_doneD bm []) V.b15  rfl (.cons (by exact rr2) .nil) rfl ?_
  rintro _ _ ⟨rfl, rfl⟩
  refine rO TTDfJ 3 rfl ?_
  refine o_want rfl ?_
  refine o_call (m_outD bm [] (by decide)) V.b17  rfl (.cons (by exact rr0) .nil) rfl ?_
  rintro _ _ ⟨q22, c22, rfl, rfl⟩
  refine o_want rfl ?_
  refine o_val (v_len (ty' := 0) Try.underlying23 rfl) rfl ?_
  refine o_want rfl ?_
  refine o_val (v_T (v_eql rfl rfl) rfl) rfl ?_
  refine rO TTDfJ 2 rfl ?_
  refine o_want rfl ?_
  refine o_call (m_most (-5) (by decide)) V.b13  rfl .nil rfl ?_
  rintro _ _ ⟨rfl, rfl⟩
  refine o_want rfl ?_
  refine o_val (v_T (v_eql rfl rfl) (by unfold DefP.most; decide)) rfl ?_
  refine rO TTDfJ 2 rfl ?_
  refine o_want rfl ?_
  refine o_call (m_most 65535 (by decide)) V.b13  rfl .nil rfl ?_
  rintro _ _ ⟨rfl, rfl⟩
  refine o_want rfl ?_
  refine o_val (v_T (v_eql rfl rfl) (by rw [DefP.most_eq (by decide)]; decide)) rfl ?_
  refine rO TTDfJ 2 rfl ?_
  refine o_want rfl ?_
  refine o_call (m_most 65536 (by decide)) V.b13  rfl .nil rfl ?_
  rintro _ _ ⟨rfl, rfl⟩
  refine o_want rfl ?_
  refine o_val (v_T (v_eql rfl rfl) (by rw [DefP.most_eq (by decide)]; decide)) rfl ?_
  refine rO TTDfJ 5 rfl ?_
  exact ret_ok (G := []) (res1 rfl) ⟨rfl, rfl⟩ (sub .nil (by exact dd4))

end Go.Proofs.Ythmgkggpipnalaa

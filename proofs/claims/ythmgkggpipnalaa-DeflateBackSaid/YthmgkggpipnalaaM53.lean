/- Steps of the proof: the walks of the functions that the statement reaches; printed by a program of ours. -/
import Derived.Test.YthmgkggpipnalaaSl22
import Derived.KernelRfl
import Derived.Test.YthmgkggpipnalaaM49
import Derived.Test.YthmgkggpipnalaaM32
import Derived.Test.YthmgkggpipnalaaM52
import Derived.Test.YthmgkggpipnalaaM33
import Derived.Test.YthmgkggpipnalaaSl13
import Derived.Test.YthmgkggpipnalaaSlLim
/-
  Steps of the proof: walks of functions that the statement reaches; printed by a program of ours.
-/
namespace Go.Proofs.Ythmgkggpipnalaa
open Go.Sl 
set_option linter.unusedVariables false
theorem TTDfJ : okT Try.prog ⟨[23], []⟩ = true := by kernel_rfl
set_option linter.unusedSimpArgs false

attribute [local irreducible] DefP.shF InfP.Res DefP.most DefP.nzV DefP.nxR List.replicate BitP.Byt


theorem m_allN (p : Option Addr) (c n : Nat) (B : List Int) (R : HProp) (hR : ∀ w0 h, R w0 h → RdR U5 p n B w0 h) (hn : B.length = n) (hl : n ≤ 4194304) (hB : BitP.Byt B) : Ctr Try.prog 11 [.slice p n c] [R] (Ret fun v G => ∃ q c, v = .slice q (DefP.shF B).length c ∧ G = [Row U5 q (DefP.shF B).length c (DefP.shF B), R]) := by
  subst hn
  exact m_all p c B R hR hl hB
theorem d_infZ (q : Option Addr) (c : Nat) (B : List Int) (hg : DefP.Gd B) (mo : Int) (hm : mo = (B.length : Int)) (hl : B.length ≤ 4194304) : Ctr Try.prog 12 [.slice q (DefP.shF B).length c, .int .i64 mo] [Row U5 q (DefP.shF B).length c (DefP.shF B)] (Ret fun v G => ∃ qq cq, v = .tuple #[.slice qq B.length cq, .int .i64 ((DefP.shF B).length : Int), .int .i64 0] ∧ G = [Row U5 qq B.length cq B, Row U5 q (DefP.shF B).length c (DefP.shF B)]) := by
  subst hm
  exact d_inf q c (DefP.shF B) (Row U5 q (DefP.shF B).length c (DefP.shF B)) (fun _ _ hh => hh.rd) (by have := hg.zb; omega) hg.byt _ (by omega) (B, ((DefP.shF B).length : Int), 0) hg.res


set_option maxHeartbeats 2000000 in
set_option maxRecDepth 100000 in
theorem l_awake  : Ctr Try.prog 9 [] [] (Ret fun v G => v = .bool true ∧ G = []) := by
  refine spec_of [] Try.func9 rfl Try.ntmps9 rfl rfl ?_
  intro w0 F
  obtain ⟨Z, hZ⟩ : ∃ Z : List Int, Z = List.replicate 2000 0 := ⟨_, rfl⟩
  have hZl : Z.length = 2000 := by rw [hZ, List.length_replicate]
  have hZB : BitP.Byt Z := by rw [hZ]; exact DefP.byt_rep 2000 (by decide)
  have hg := DefP.gd hZB (by omega)
  have h264 := DefP.zeros_264 hZ
  refine rT TTDfJ 7 rfl ?_
  refine r_makeN 2000 2000 (U5) rfl rfl V.sl23 V.z5 rfl rfl rfl rfl (by omega) (by omega) rfl rfl ?_
  intro b6
  refine rO TTDfJ 4 rfl ?_
  rw [show List.replicate 2000 U5.d = Z from hZ.symm]
  refine rC TTDfJ 2 rfl ?_
  refine o_call (m_allN (some ⟨b6, 0, none⟩) 2000 2000 Z (Row U5 (some ⟨b6, 0, none⟩) 2000 2000 Z) (fun _ _ hh => hh.rd) hZl (by omega) hZB) V.b11  rfl (.cons (by exact rr0) .nil) rfl ?_
  rintro _ _ ⟨q7, c7, rfl, rfl⟩
  refine rO TTDfJ 6 rfl ?_
  refine o_call (d_infZ q7 c7 Z hg 2000 (by omega) (by omega)) V.b12  rfl (.cons (by exact rr0) .nil) rfl ?_
  rintro _ _ ⟨q11, c11, rfl, rfl⟩
  refine rO TTDfJ 12 rfl ?_
  refine o_val (v_T (v_eql rfl rfl) rfl) rfl ?_
  refine rO TTDfJ 4 rfl ?_
  refine o_want rfl ?_
  refine o_val (v_T (v_eql rfl rfl) rfl) rfl ?_
  refine rO TTDfJ 4 rfl ?_
  refine o_want rfl ?_
  refine o_val (v_T (v_eql rfl rfl) (by omega)) rfl ?_
  refine rO TTDfJ 4 rfl ?_
  refine o_want rfl ?_
  refine o_val (v_T (v_leq rfl rfl) (by omega)) rfl ?_
  refine rO TTDfJ 2 rfl ?_
  refine o_want rfl ?_
  refine o_call (m_most 0 (by decide)) V.b13  rfl .nil rfl ?_
  rintro _ _ ⟨rfl, rfl⟩
  refine o_want rfl ?_
  refine o_val (v_T (v_eql rfl rfl) (by rw [DefP.most_eq (by decide)]; decide)) rfl ?_
  refine rO TTDfJ 5 rfl ?_
  exact ret_ok (G := []) (res1 rfl) ⟨rfl, rfl⟩ (sub .nil (by exact dd3))


end Go.Proofs.Ythmgkggpipnalaa

/-
  Steps of the proof: walks of functions that the statement reaches; printed by a program of ours.
-/
namespace Go.Proofs.Ythmgkggpipnalaa
open Go.Sl 
set_option linter.unusedVariables false
theorem TTDfK : okT Try.prog ⟨[23], []⟩ = true := by kernel_rfl
set_option linter.unusedSimpArgs false

attribute [local irreducible] DefP.shF InfP.Res DefP.most DefP.nzV DefP.nxR BitP.Byt

end Go.Proofs.Ythmgkggpipnalaa

/-
  Steps of the proof: walks of functions that the statement reaches; printed by a program of ours.
-/
namespace Go.Proofs.Ythmgkggpipnalaa
open Go.Sl 
set_option linter.unusedVariables false
theorem TTDfL : okT Try.prog ⟨[22, 23], [(25, 0, 0), (25, 1, 1)]⟩ = true := by kernel_rfl
set_option linter.unusedSimpArgs false

attribute [local irreducible] DefP.shF InfP.Res DefP.most BitP.Byt

set_option maxHeartbeats 4000000 in
set_option maxRecDepth 100000 in
theorem l_make (pb : Option Addr) (cb : Nat) (Ls : List (Td.Ty (.sl 5 (.int .u8)))) (pm : Option Addr) (cm : Nat) (M : List Int) (hM : BitP.Byt M) (hlim : ∀ y ∈ Ls, y.cap ≤ 140737488351232) : Ctr Try.prog 10 [.agg #[.slice pb Ls.length cb, .slice pm M.length cm]] [Deep 23 (.sl 5 (.int .u8)) pb Ls.length Ls, RdR U5 pm M.length M] (Ret fun v G => ∃ ok q c out, v = .tuple #[.slice q out.length c, .bool ok] ∧ BitP.Byt out ∧ out.length ≤ 70000 ∧ G = [Row U5 q out.length c out, Deep 23 (.sl 5 (.int .u8)) pb Ls.length Ls, RdR U5 pm M.length M]) := by
  refine spec_of [(0, _)] Try.func10 rfl Try.ntmps10 rfl rfl ?_
  intro w0 F
  refine rT TTDfL 2 rfl ?_
  refine o_box rfl (cs := [_, _]) rfl rfl ?_
  intro b1
  refine rO TTDfL 9 rfl ?_
  rcases (InfP.or3b (Ls.length ≤ 50) (Ls.length ≤ M.length) (M.length ≤ 100)) with ⟨hl1, hl2, hl3⟩ | ⟨hl1, hl2, hl3⟩ | ⟨hl1, hl2⟩ | hl1
  ·
    refine rC TTDfL 4 rfl ?_
    refine o_val (v_load V.s22 rfl (by exact mm0) rfl) rfl ?_
    refine o_val (v_len (ty' := 0) Try.underlying22 rfl) rfl ?_
    refine o_val (v_F (v_gtr rfl rfl) (by omega)) rfl ?_
    refine rO TTDfL 2 rfl ?_
    refine o_want rfl ?_
    refine o_val (v_load V.s23 rfl (by exact mm0) rfl) rfl ?_
    refine rO TTDfL 2 rfl ?_
    refine o_want rfl ?_
    refine o_val (v_load V.s22 rfl (by exact mm0) rfl) rfl ?_
    refine o_want rfl ?_
    refine o_val (v_len (ty' := 0) Try.underlying22 rfl) rfl ?_
    refine o_want rfl ?_
    refine o_val (v_F (v_lss rfl rfl) (by omega)) rfl ?_
    refine rO TTDfL 3 rfl ?_
    refine o_want rfl ?_
    refine o_val (v_load V.s23 rfl (by exact mm0) rfl) rfl ?_
    refine o_want rfl ?_
    refine o_val (v_len (ty' := 0) Try.underlying23 rfl) rfl ?_
    refine o_want rfl ?_
    refine o_val (v_F (v_gtr rfl rfl) (by omega)) rfl ?_
    refine rO TTDfL 13 rfl ?_
    refine w_add0 (Row U5 none 0 0 []) (Row.nil _ _ _) ?_
    refine w_loop4 (fun (i : Nat) (q : Option Addr) (c : Nat) (out : List Int) => [(1, .pointer (some ⟨b1, 0, none⟩)), (4, .slice q out.length c), (5, .int .i64 (i : Int))]) (fun (i : Nat) (q : Option Addr) (c : Nat) (out : List Int) => Row U5 q out.length c out :: Cel b1 25 [.slice pb Ls.length cb, .slice pm M.length cm] :: Deep 23 (.sl 5 (.int .u8)) pb Ls.length Ls :: RdR U5 pm M.length M :: F) (fun (i : Nat) (q : Option Addr) (c : Nat) (out : List Int) => i ≤ Ls.length ∧ BitP.Byt out ∧ out.length ≤ 70000) (fun (i : Nat) (q : Option Addr) (c : Nat) (out : List Int) => Ls.length - i) (i4 (0) (none) (0) ([]) ?_ (.cons rfl (.cons rfl (.cons rfl (.nil _)))) (sub (.cons (by exact rr0) (.cons (by exact rr0) (.cons (by exact rr0) (.cons (by exact rr0) .nil)))) (by exact dd0))) ?_
    ·
      exact ⟨Nat.zero_le _, (by unfold BitP.Byt; intro x hx; cases hx), by decide⟩
    intro i q c out
    rintro ⟨hi, hoB, hol⟩
    refine rL TTDfL 5 rfl ?_
    refine o_val (v_load V.s22 rfl (by exact mm1) rfl) rfl ?_
    refine rO TTDfL 4 rfl ?_
    refine w_condD rfl (fun h30 => ?_) (fun h30 => ?_)
    ·
      refine rC TTDfL 5 rfl ?_
      refine w_holds (by exact mm2) (fun hD => ?_)
      have hi2 : i < Ls.length := by omega
      have hx3 := hD _ (List.getElem_mem hi2)
      have hgm := (Td.ec 23 (.sl 5 (.int .u8))).g_nat hi2
      rw [← hgm] at hx3
      have hXl : ((Td.ec 23 (.sl 5 (.int .u8))).g Ls (i : Int)).l.length ≤ 140737488351232 := by rw [hgm]; have h1 := (hlim _ (List.getElem_mem hi2)); have h2 := (hx3).1.1; rw [hgm] at h2; exact Nat.le_trans h2 h1
      refine w_add0 (RdR U5 ((Td.ec 23 (.sl 5 (.int .u8))).g Ls (i : Int)).p ((Td.ec 23 (.sl 5 (.int .u8))).g Ls (i : Int)).l.length ((Td.ec 23 (.sl 5 (.int .u8))).g Ls (i : Int)).l) hx3.2.1 ?_
      have hxb : BitP.Byt ((Td.ec 23 (.sl 5 (.int .u8))).g Ls (i : Int)).l := by unfold BitP.Byt; exact fun x hx => byte_in (hx3.2.2 x hx)
      have hmv : 0 ≤ (U5.g M (i : Int)) ∧ (U5.g M (i : Int)) < 256 := BitP.Byt.get hM _
      refine rC TTDfL 5 rfl ?_
      refine w_loop4 (fun (k : Nat) (q2 : Option Addr) (c2 : Nat) (o2 : List Int) => [(1, .pointer (some ⟨b1, 0, none⟩)), (4, .slice q2 o2.length c2), (5, .int .i64 (i : Int)), (6, .int .i64 (k : Int))]) (fun (k : Nat) (q2 : Option Addr) (c2 : Nat) (o2 : List Int) => Row U5 q2 o2.length c2 o2 :: RdR U5 ((Td.ec 23 (.sl 5 (.int .u8))).g Ls (i : Int)).p ((Td.ec 23 (.sl 5 (.int .u8))).g Ls (i : Int)).l.length ((Td.ec 23 (.sl 5 (.int .u8))).g Ls (i : Int)).l :: Cel b1 25 [.slice pb Ls.length cb, .slice pm M.length cm] :: Deep 23 (.sl 5 (.int .u8)) pb Ls.length Ls :: RdR U5 pm M.length M :: F) (fun (k : Nat) (q2 : Option Addr) (c2 : Nat) (o2 : List Int) => k ≤ (U5.g M (i : Int)).toNat ∧ BitP.Byt o2 ∧ o2.length ≤ 70000) (fun (k : Nat) (q2 : Option Addr) (c2 : Nat) (o2 : List Int) => (U5.g M (i : Int)).toNat - k) (i4 (0) (q) (c) (out) ?_ (.cons rfl (.cons rfl (.cons rfl (.cons rfl (.nil _))))) (sub (.cons (by exact rr1) (.cons (by exact rr0) (.cons (by exact rr0) (.cons (by exact rr0) (.cons (by exact rr0) .nil))))) (by exact dd0))) ?_
      ·
        exact ⟨Nat.zero_le _, hoB, hol⟩
      intro k q2 c2 o2
      rintro ⟨hk, hoB2, hol2⟩
      refine rL TTDfL 5 rfl ?_
      refine o_val (v_load V.s23 rfl (by exact mm2) rfl) rfl ?_
      refine o_val (v_move rfl) rfl ?_
      refine o_val (r_index (c := (U5)) V.sl23 rfl rfl (by exact rdH (fun _ _ h => h) mm4) (by omega) (by omega)) rfl ?_
      refine o_val (r_load (c := (U5)) V.s5 rfl (by exact rdH (fun _ _ h => h) mm4) (by omega) (by omega) rfl rfl) rfl ?_
      refine o_val (v_conv V.u5 Try.underlying3 rfl (wrapI (by omega) (by omega))) rfl ?_
      refine rO TTDfL 3 rfl ?_
      refine w_condD rfl (fun h40 => ?_) (fun h40 => ?_)
      ·
        refine rC TTDfL 10 rfl ?_
        refine o_val (v_load V.s22 rfl (by exact mm2) rfl) rfl ?_
        refine o_val (v_move rfl) rfl ?_
        refine o_val (r_index (c := ((Td.ec 23 (.sl 5 (.int .u8))))) V.sl22 rfl rfl (by exact deepH mm3) (by omega) (by omega)) rfl ?_
        refine o_val (r_load (c := ((Td.ec 23 (.sl 5 (.int .u8))))) V.s23 rfl (by exact deepH mm3) (by omega) (by omega) rfl rfl) rfl ?_
        refine rOs TTDfL 5 rfl (by omega) ?_
        refine w_condD rfl (fun h52 => ?_) (fun h52 => ?_)
        ·
          refine rC TTDfL 17 rfl ?_
          exact ret_ok (G := [Row U5 none 0 0 [], Deep 23 (.sl 5 (.int .u8)) pb Ls.length Ls, RdR U5 pm M.length M]) (res2 rfl rfl) ⟨false, none, 0, [], rfl, (by unfold BitP.Byt; intro x hx; cases hx), by decide, rfl⟩ (Sl.Sub.trans (sub_add0 (A := Row U5 none 0 0 []) (fun w0 => Row.nil U5 w0 _)) (sub (.cons (by exact rr0) (.cons (by exact rr3) (.cons (by exact rr3) .nil))) (by exact dd3)))
        ·
          refine rC TTDfL 5 rfl ?_
          refine o_val (v_load V.s22 rfl (by exact mm2) rfl) rfl ?_
          refine o_val (v_move rfl) rfl ?_
          refine o_val (r_index (c := ((Td.ec 23 (.sl 5 (.int .u8))))) V.sl22 rfl rfl (by exact deepH mm3) (by omega) (by omega)) rfl ?_
          refine o_val (r_load (c := ((Td.ec 23 (.sl 5 (.int .u8))))) V.s23 rfl (by exact deepH mm3) (by omega) (by omega) rfl rfl) rfl ?_
          refine r_append (c := (U5)) V.sl23 V.z5 rfl rfl rfl rfl (by exact rr0) (by exact rdH (fun _ _ h => h) mm1) (by omega) rfl ?_
          intro p59 c59
          refine rOs TTDfL 9 rfl (by omega) ?_
          rw [show o2.length + ((Td.ec 23 (.sl 5 (.int .u8))).g Ls (i : Int)).l.length = (o2 ++ ((Td.ec 23 (.sl 5 (.int .u8))).g Ls (i : Int)).l).length from List.length_append.symm]
          exact j4 (k + 1) _ _ (o2 ++ ((Td.ec 23 (.sl 5 (.int .u8))).g Ls (i : Int)).l) ⟨⟨by omega, DefP.Byt.app hoB2 hxb, by rw [List.length_append]; omega⟩, by omega⟩ (.cons rfl (.cons rfl (.cons rfl (.cons rfl (.nil _))))) (sub (.cons (by exact rr0) (.cons (by exact rr0) (.cons (by exact rr0) (.cons (by exact rr0) (.cons (by exact rr0) .nil))))) (by exact dd0))
      ·
        refine rCs TTDfL 11 rfl (by omega) ?_
        refine j4 (i + 1) (_) (_) (_) ?_ (.cons rfl (.cons rfl (.cons rfl (.nil _)))) (sub (.cons (by exact rr0) (.cons (by exact rr1) (.cons (by exact rr1) (.cons (by exact rr1) .nil)))) (by exact dd1))
        exact ⟨⟨by omega, by assumption, by assumption⟩, by omega⟩
    ·
      refine rC TTDfL 13 rfl ?_
      exact ret_ok (G := [Row U5 q out.length c out, Deep 23 (.sl 5 (.int .u8)) pb Ls.length Ls, RdR U5 pm M.length M]) (res2 rfl rfl) ⟨true, q, c, out, rfl, hoB, hol, rfl⟩ (sub (.cons (by exact rr0) (.cons (by exact rr1) (.cons (by exact rr1) .nil))) (by exact dd1))
  ·
    refine rC TTDfL 4 rfl ?_
    refine o_val (v_load V.s22 rfl (by exact mm0) rfl) rfl ?_
    refine o_val (v_len (ty' := 0) Try.underlying22 rfl) rfl ?_
    refine o_val (v_F (v_gtr rfl rfl) (by omega)) rfl ?_
    refine rO TTDfL 2 rfl ?_
    refine o_want rfl ?_
    refine o_val (v_load V.s23 rfl (by exact mm0) rfl) rfl ?_
    refine rO TTDfL 2 rfl ?_
    refine o_want rfl ?_
    refine o_val (v_load V.s22 rfl (by exact mm0) rfl) rfl ?_
    refine o_want rfl ?_
    refine o_val (v_len (ty' := 0) Try.underlying22 rfl) rfl ?_
    refine o_want rfl ?_
    refine o_val (v_F (v_lss rfl rfl) (by omega)) rfl ?_
    refine rO TTDfL 3 rfl ?_
    refine o_want rfl ?_
    refine o_val (v_load V.s23 rfl (by exact mm0) rfl) rfl ?_
    refine o_want rfl ?_
    refine o_val (v_len (ty' := 0) Try.underlying23 rfl) rfl ?_
    refine o_want rfl ?_
    refine o_val (v_T (v_gtr rfl rfl) (by omega)) rfl ?_
    refine rO TTDfL 12 rfl ?_
    exact ret_ok (G := [Row U5 none 0 0 [], Deep 23 (.sl 5 (.int .u8)) pb Ls.length Ls, RdR U5 pm M.length M]) (res2 rfl rfl) ⟨false, none, 0, [], rfl, (by unfold BitP.Byt; intro x hx; cases hx), by decide, rfl⟩ (Sl.Sub.trans (sub_add0 (A := Row U5 none 0 0 []) (fun w0 => Row.nil U5 w0 _)) (sub (.cons (by exact rr0) (.cons (by exact rr1) (.cons (by exact rr1) .nil))) (by exact dd1)))
  ·
    refine rC TTDfL 4 rfl ?_
    refine o_val (v_load V.s22 rfl (by exact mm0) rfl) rfl ?_
    refine o_val (v_len (ty' := 0) Try.underlying22 rfl) rfl ?_
    refine o_val (v_F (v_gtr rfl rfl) (by omega)) rfl ?_
    refine rO TTDfL 2 rfl ?_
    refine o_want rfl ?_
    refine o_val (v_load V.s23 rfl (by exact mm0) rfl) rfl ?_
    refine rO TTDfL 2 rfl ?_
    refine o_want rfl ?_
    refine o_val (v_load V.s22 rfl (by exact mm0) rfl) rfl ?_
    refine o_want rfl ?_
    refine o_val (v_len (ty' := 0) Try.underlying22 rfl) rfl ?_
    refine o_want rfl ?_
    refine o_val (v_T (v_lss rfl rfl) (by omega)) rfl ?_
    refine rO TTDfL 18 rfl ?_
    exact ret_ok (G := [Row U5 none 0 0 [], Deep 23 (.sl 5 (.int .u8)) pb Ls.length Ls, RdR U5 pm M.length M]) (res2 rfl rfl) ⟨false, none, 0, [], rfl, (by unfold BitP.Byt; intro x hx; cases hx), by decide, rfl⟩ (Sl.Sub.trans (sub_add0 (A := Row U5 none 0 0 []) (fun w0 => Row.nil U5 w0 _)) (sub (.cons (by exact rr0) (.cons (by exact rr1) (.cons (by exact rr1) .nil))) (by exact dd1)))
  ·
    refine rC TTDfL 4 rfl ?_
    refine o_val (v_load V.s22 rfl (by exact mm0) rfl) rfl ?_
    refine o_val (v_len (ty' := 0) Try.underlying22 rfl) rfl ?_
    refine o_val (v_T (v_gtr rfl rfl) (by omega)) rfl ?_
    refine rO TTDfL 26 rfl ?_
    exact ret_ok (G := [Row U5 none 0 0 [], Deep 23 (.sl 5 (.int .u8)) pb Ls.length Ls, RdR U5 pm M.length M]) (res2 rfl rfl) ⟨false, none, 0, [], rfl, (by unfold BitP.Byt; intro x hx; cases hx), by decide, rfl⟩ (Sl.Sub.trans (sub_add0 (A := Row U5 none 0 0 []) (fun w0 => Row.nil U5 w0 _)) (sub (.cons (by exact rr0) (.cons (by exact rr1) (.cons (by exact rr1) .nil))) (by exact dd1)))
end Go.Proofs.Ythmgkggpipnalaa

/-
  Steps of the proof: walks of functions that the statement reaches; printed by a program of ours.
-/
namespace Go.Proofs.Ythmgkggpipnalaa
open Go.Sl 
set_option linter.unusedVariables false
theorem TTDfM : okT Try.prog ⟨[23], []⟩ = true := by kernel_rfl
set_option linter.unusedSimpArgs false

attribute [local irreducible] DefP.shF InfP.Res DefP.most BitP.Byt

set_option maxHeartbeats 4000000 in
set_option maxRecDepth 100000 in
theorem l_back (pb : Option Addr) (cb : Nat) (Ls : List (Td.Ty (.sl 5 (.int .u8)))) (pm : Option Addr) (cm : Nat) (M : List Int) (hM : BitP.Byt M) (hlim : ∀ y ∈ Ls, y.cap ≤ 140737488351232) : Ctr Try.prog 3 [.agg #[.slice pb Ls.length cb, .slice pm M.length cm]] [Deep 23 (.sl 5 (.int .u8)) pb Ls.length Ls, RdR U5 pm M.length M] (Ret fun v G => v = .bool true ∧ G = [Deep 23 (.sl 5 (.int .u8)) pb Ls.length Ls, RdR U5 pm M.length M]) := by
  refine spec_of [(0, _)] Try.func3 rfl Try.ntmps3 rfl rfl ?_
  intro w0 F
  refine rT TTDfM 2 rfl ?_
  refine o_box rfl (cs := [_, _]) rfl rfl ?_
  intro b1
  refine rO TTDfM 6 rfl ?_
  refine o_call (l_awake) V.b9  rfl .nil rfl ?_
  rintro _ _ ⟨rfl, rfl⟩
  refine rO TTDfM 8 rfl ?_
  refine o_val (v_loadAgg V.a25 rfl (by exact mm0) (vs := [_, _]) rfl rfl) rfl ?_
  refine o_call (l_make pb cb Ls pm cm M hM hlim) V.b10  rfl (.cons (by exact rr1) (.cons (by exact rr1) .nil)) rfl ?_
  rintro _ _ ⟨ok, q, c, out, rfl, hoB, hol, rfl⟩
  refine rO TTDfM 7 rfl ?_
  rcases ((by cases ok; exact .inl rfl; exact .inr rfl : ok = false ∨ ok = true)) with rfl | rfl
  ·
    refine rC TTDfM 15 rfl ?_
    exact ret_ok (G := [Deep 23 (.sl 5 (.int .u8)) pb Ls.length Ls, RdR U5 pm M.length M]) (res1 rfl) ⟨rfl, rfl⟩ (sub (.cons (by exact rr1) (.cons (by exact rr1) .nil)) (by exact dd2))
  ·
    refine rC TTDfM 11 rfl ?_
    have hg := DefP.gd hoB (by omega)
    have hgm := hg.most
    have hme := DefP.most_eq (n := (out.length : Int)) (by omega)
    refine rC TTDfM 2 rfl ?_
    refine o_call (m_all q c out (Row U5 q out.length c out) (fun _ _ hh => hh.rd) (by omega) hoB) V.b11  rfl (.cons (by exact rr0) .nil) rfl ?_
    rintro _ _ ⟨q19, c19, rfl, rfl⟩
    refine rO TTDfM 8 rfl ?_
    refine o_call (d_infZ q19 c19 out hg (out.length : Int) rfl (by omega)) V.b12  rfl (.cons (by exact rr0) .nil) rfl ?_
    rintro _ _ ⟨q24, c24, rfl, rfl⟩
    refine rO TTDfM 12 rfl ?_
    refine o_val (v_T (v_eql rfl rfl) rfl) rfl ?_
    refine rO TTDfM 4 rfl ?_
    refine o_want rfl ?_
    refine o_val (v_T (v_eql rfl rfl) rfl) rfl ?_
    refine rO TTDfM 3 rfl ?_
    refine o_want rfl ?_
    refine o_val (v_str (T := 5) Try.underlying23 Try.underlying5 Try.underlying9 rfl (by exact own mm0)) rfl ?_
    refine o_want rfl ?_
    refine o_val (v_move rfl) rfl ?_
    refine o_want rfl ?_
    refine o_val (v_str (T := 5) Try.underlying23 Try.underlying5 Try.underlying9 rfl (by exact own mm2)) rfl ?_
    refine o_want rfl ?_
    refine o_val (v_sself rfl rfl) rfl ?_
    refine rOs TTDfM 9 rfl (by omega) ?_
    refine o_want rfl ?_
    refine o_val (v_quo rfl rfl (by omega) (quoI (by omega) (by omega) (by omega))) rfl ?_
    refine rOs TTDfM 3 rfl (by omega) ?_
    refine o_want rfl ?_
    refine o_val (v_T (v_leq rfl rfl) (by omega)) rfl ?_
    refine rO TTDfM 4 rfl ?_
    refine o_want rfl ?_
    refine o_call (m_most (out.length : Int) (by omega)) V.b13  rfl .nil rfl ?_
    rintro _ _ ⟨rfl, rfl⟩
    refine rOs TTDfM 5 rfl (by omega) ?_
    refine o_want rfl ?_
    refine o_val (v_quo rfl rfl (by omega) (quoI (by omega) (by omega) (by omega))) rfl ?_
    refine rOs TTDfM 3 rfl (by omega) ?_
    refine o_want rfl ?_
    refine o_val (v_T (v_eql rfl rfl) (by omega)) rfl ?_
    refine rO TTDfM 5 rfl ?_
    exact ret_ok (G := [Deep 23 (.sl 5 (.int .u8)) pb Ls.length Ls, RdR U5 pm M.length M]) (res1 rfl) ⟨rfl, rfl⟩ (sub (.cons (by exact rr3) (.cons (by exact rr3) .nil)) (by exact dd4))
end Go.Proofs.Ythmgkggpipnalaa

/- Steps of the proof: the walks of the functions that the statement reaches; printed by a program of ours. -/
import Derived.Test.YthmgkggpipnalaaSl22
import Derived.KernelRfl
import Derived.Test.YthmgkggpipnalaaM49
import Derived.Test.YthmgkggpipnalaaM32
import Derived.Test.YthmgkggpipnalaaM52
import Derived.Test.YthmgkggpipnalaaM33
import Derived.Test.YthmgkggpipnalaaSl13
import Derived.Test.YthmgkggpipnalaaSlLim
/-
  Steps of the proof: walks of functions that the statement reaches; printed by a program of ours.
-/
namespace Go.Proofs.Ythmgkggpipnalaa
open Go.Sl 
set_option linter.unusedVariables false
theorem TTDfJ : okT Try.prog ⟨[23], []⟩ = true := by kernel_rfl
set_option linter.unusedSimpArgs false

attribute [local irreducible] DefP.shF InfP.Res DefP.most DefP.nzV DefP.nxR List.replicate BitP.Byt


theorem m_allN (p : Option Addr) (c n : Nat) (B : List Int) (R : HProp) (hR : ∀ w0 h, R w0 h → RdR U5 p n B w0 h) (hn : B.length = n) (hl : n ≤ 4194304) (hB : BitP.Byt B) : Ctr Try.prog 11 [.slice p n c] [R] (Ret fun v G => ∃ q c, v = .slice q (DefP.shF B).length c ∧ G = [Row U5 q (DefP.shF B).length c (DefP.shF B), R]) := by
  subst hn
  exact m_all p c B R hR hl hB
theorem d_infZ (q : Option Addr) (c : Nat) (B : List Int) (hg : DefP.Gd B) (mo : Int) (hm : mo = (B.length : Int)) (hl : B.length ≤ 4194304) : Ctr Try.prog 12 [.slice q (DefP.shF B).length c, .int .i64 mo] [Row U5 q (DefP.shF B).length c (DefP.shF B)] (Ret fun v G => ∃ qq cq, v = .tuple #[.slice qq B.length cq, .int .i64 ((DefP.shF B).length : Int), .int .i64 0] ∧ G = [Row U5 qq B.length cq B, Row U5 q (DefP.shF B).length c (DefP.shF B)]) := by
  subst hm
  exact d_inf q c (DefP.shF B) (Row U5 q (DefP.shF B).length c (DefP.shF B)) (fun _ _ hh => hh.rd) (by have := hg.zb; omega) hg.byt _ (by omega) (B, ((DefP.shF B).length : Int), 0) hg.res


set_option maxHeartbeats 2000000 in
set_option maxRecDepth 100000 in
theorem l_awake  : Ctr Try.prog 9 [] [] (Ret fun v G => v = .bool true ∧ G = []) := by
  refine spec_of [] Try.func9 rfl Try.ntmps9 rfl rfl ?_
  intro w0 F
  obtain ⟨Z, hZ⟩ : ∃ Z : List Int, Z = List.replicate 2000 0 := ⟨_, rfl⟩
  have hZl : Z.length = 2000 := by rw [hZ, List.length_replicate]
  have hZB : BitP.Byt Z := by rw [hZ]; exact DefP.byt_rep 2000 (by decide)
  have hg := DefP.gd hZB (by omega)
  have h264 := DefP.zeros_264 hZ
  refine rT TTDfJ 7 rfl ?_
  refine r_makeN 2000 2000 (U5) rfl rfl V.sl23 V.z5 rfl rfl rfl rfl (by omega) (by omega) rfl rfl ?_
  intro b6
  refine rO TTDfJ 4 rfl ?_
  rw [show List.replicate 2000 U5.d = Z from hZ.symm]
  refine rC TTDfJ 2 rfl ?_
  refine o_call (m_allN (some ⟨b6, 0, none⟩) 2000 2000 Z (Row U5 (some ⟨b6, 0, none⟩) 2000 2000 Z) (fun _ _ hh => hh.rd) hZl (by omega) hZB) V.b11  rfl (.cons (by exact rr0) .nil) rfl ?_
  rintro _ _ ⟨q7, c7, rfl, rfl⟩
  refine rO TTDfJ 6 rfl ?_
  refine o_call (d_infZ q7 c7 Z hg 2000 (by omega) (by omega)) V.b12  rfl (.cons (by exact rr0) .nil) rfl ?_
  rintro _ _ ⟨q11, c11, rfl, rfl⟩
  refine rO TTDfJ 12 rfl ?_
  refine o_val (v_T (v_eql rfl rfl) rfl) rfl ?_
  refine rO TTDfJ 4 rfl ?_
  refine o_want rfl ?_
  refine o_val (v_T (v_eql rfl rfl) rfl) rfl ?_
  refine rO TTDfJ 4 rfl ?_
  refine o_want rfl ?_
  refine o_val (v_T (v_eql rfl rfl) (by omega)) rfl ?_
  refine rO TTDfJ 4 rfl ?_
  refine o_want rfl ?_
  refine o_val (v_T (v_leq rfl rfl) (by omega)) rfl ?_
  refine rO TTDfJ 2 rfl ?_
  refine o_want rfl ?_
  refine o_call (m_most 0 (by decide)) V.b13  rfl .nil rfl ?_
  rintro _ _ ⟨rfl, rfl⟩
  refine o_want rfl ?_
  refine o_val (v_T (v_eql rfl rfl) (by rw [DefP.most_eq (by decide)]; decide)) rfl ?_
  refine rO TTDfJ 5 rfl ?_
  exact ret_ok (G := []) (res1 rfl) ⟨rfl, rfl⟩ (sub .nil (by exact dd3))


end Go.Proofs.Ythmgkggpipnalaa

/-
  Steps of the proof: walks of functions that the statement reaches; printed by a program of ours.
-/
namespace Go.Proofs.Ythmgkggpipnalaa
open Go.Sl 
set_option linter.unusedVariables false
theorem TTDfK : okT Try.prog ⟨[23], []⟩ = true := by kernel_rfl
set_option linter.unusedSimpArgs false

attribute [local irreducible] DefP.shF InfP.Res DefP.most DefP.nzV DefP.nxR BitP.Byt

end Go.Proofs.Ythmgkggpipnalaa

/-
  Steps of the proof: walks of functions that the statement reaches; printed by a program of ours.
-/
namespace Go.Proofs.Ythmgkggpipnalaa
open Go.Sl 
set_option linter.unusedVariables false
theorem TTDfL : okT Try.prog ⟨[22, 23], [(25, 0, 0), (25, 1, 1)]⟩ = true := by kernel_rfl
set_option linter.unusedSimpArgs false

attribute [local irreducible] DefP.shF InfP.Res DefP.most BitP.Byt

set_option maxHeartbeats 4000000 in
set_option maxRecDepth 100000 in
theorem l_make (pb : Option Addr) (cb : Nat) (Ls : List (Td.Ty (.sl 5 (.int .u8)))) (pm : Option Addr) (cm : Nat) (M : List Int) (hM : BitP.Byt M) (hlim : ∀ y ∈ Ls, y.cap ≤ 140737488351232) : Ctr Try.prog 10 [.agg #[.slice pb Ls.length cb, .slice pm M.length cm]] [Deep 23 (.sl 5 (.int .u8)) pb Ls.length Ls, RdR U5 pm M.length M] (Ret fun v G => ∃ ok q c out, v = .tuple #[.slice q out.length c, .bool ok] ∧ BitP.Byt out ∧ out.length ≤ 70000 ∧ G = [Row U5 q out.length c out, Deep 23 (.sl 5 (.int .u8)) pb Ls.length Ls, RdR U5 pm M.length M]) := by
  refine spec_of [(0, _)] Try.func10 rfl Try.ntmps10 rfl rfl ?_
  intro w0 F
  refine rT TTDfL 2 rfl ?_
  refine o_box rfl (cs := [_, _]) rfl rfl ?_
  intro b1
  refine rO TTDfL 9 rfl ?_
  rcases (InfP.or3b (Ls.length ≤ 50) (Ls.length ≤ M.length) (M.length ≤ 100)) with ⟨hl1, hl2, hl3⟩ | ⟨hl1, hl2, hl3⟩ | ⟨hl1, hl2⟩ | hl1
  ·
    refine rC TTDfL 4 rfl ?_
    refine o_val (v_load V.s22 rfl (by exact mm0) rfl) rfl ?_
    refine o_val (v_len (ty' := 0) Try.underlying22 rfl) rfl ?_
    refine o_val (v_F (v_gtr rfl rfl) (by omega)) rfl ?_
    refine rO TTDfL 2 rfl ?_
    refine o_want rfl ?_
    refine o_val (v_load V.s23 rfl (by exact mm0) rfl) rfl ?_
    refine rO TTDfL 2 rfl ?_
    refine o_want rfl ?_
    refine o_val (v_load V.s22 rfl (by exact mm0) rfl) rfl ?_
    refine o_want rfl ?_
    refine o_val (v_len (ty' := 0) Try.underlying22 rfl) rfl ?_
    refine o_want rfl ?_
    refine o_val (v_F (v_lss rfl rfl) (by omega)) rfl ?_
    refine rO TTDfL 3 rfl ?_
    refine o_want rfl ?_
    refine o_val (v_load V.s23 rfl (by exact mm0) rfl) rfl ?_
    refine o_want rfl ?_
    refine o_val (v_len (ty' := 0) Try.underlying23 rfl) rfl ?_
    refine o_want rfl ?_
    refine o_val (v_F (v_gtr rfl rfl) (by omega)) rfl ?_
    refine rO TTDfL 13 rfl ?_
    refine w_add0 (Row U5 none 0 0 []) (Row.nil _ _ _) ?_
    refine w_loop4 (fun (i : Nat) (q : Option Addr) (c : Nat) (out : List Int) => [(1, .pointer (some ⟨b1, 0, none⟩)), (4, .slice q out.length c), (5, .int .i64 (i : Int))]) (fun (i : Nat) (q : Option Addr) (c : Nat) (out : List Int) => Row U5 q out.length c out :: Cel b1 25 [.slice pb Ls.length cb, .slice pm M.length cm] :: Deep 23 (.sl 5 (.int .u8)) pb Ls.length Ls :: RdR U5 pm M.length M :: F) (fun (i : Nat) (q : Option Addr) (c : Nat) (out : List Int) => i ≤ Ls.length ∧ BitP.Byt out ∧ out.length ≤ 70000) (fun (i : Nat) (q : Option Addr) (c : Nat) (out : List Int) => Ls.length - i) (i4 (0) (none) (0) ([]) ?_ (.cons rfl (.cons rfl (.cons rfl (.nil _)))) (sub (.cons (by exact rr0) (.cons (by exact rr0) (.cons (by exact rr0) (.cons (by exact rr0) .nil)))) (by exact dd0))) ?_
    ·
      exact ⟨Nat.zero_le _, (by unfold BitP.Byt; intro x hx; cases hx), by decide⟩
    intro i q c out
    rintro ⟨hi, hoB, hol⟩
    refine rL TTDfL 5 rfl ?_
    refine o_val (v_load V.s22 rfl (by exact mm1) rfl) rfl ?_
    refine rO TTDfL 4 rfl ?_
    refine w_condD rfl (fun h30 => ?_) (fun h30 => ?_)
    ·
      refine rC TTDfL 5 rfl ?_
      refine w_holds (by exact mm2) (fun hD => ?_)
      have hi2 : i < Ls.length := by omega
      have hx3 := hD _ (List.getElem_mem hi2)
      have hgm := (Td.ec 23 (.sl 5 (.int .u8))).g_nat hi2
      rw [← hgm] at hx3
      have hXl : ((Td.ec 23 (.sl 5 (.int .u8))).g Ls (i : Int)).l.length ≤ 140737488351232 := by rw [hgm]; have h1 := (hlim _ (List.getElem_mem hi2)); have h2 := (hx3).1.1; rw [hgm] at h2; exact Nat.le_trans h2 h1
      refine w_add0 (RdR U5 ((Td.ec 23 (.sl 5 (.int .u8))).g Ls (i : Int)).p ((Td.ec 23 (.sl 5 (.int .u8))).g Ls (i : Int)).l.length ((Td.ec 23 (.sl 5 (.int .u8))).g Ls (i : Int)).l) hx3.2.1 ?_
      have hxb : BitP.Byt ((Td.ec 23 (.sl 5 (.int .u8))).g Ls (i : Int)).l := by unfold BitP.Byt; exact fun x hx => byte_in (hx3.2.2 x hx)
      have hmv : 0 ≤ (U5.g M (i : Int)) ∧ (U5.g M (i : Int)) < 256 := BitP.Byt.get hM _
      refine rC TTDfL 5 rfl ?_
      refine w_loop4 (fun (k : Nat) (q2 : Option Addr) (c2 : Nat) (o2 : List Int) => [(1, .pointer (some ⟨b1, 0, none⟩)), (4, .slice q2 o2.length c2), (5, .int .i64 (i : Int)), (6, .int .i64 (k : Int))]) (fun (k : Nat) (q2 : Option Addr) (c2 : Nat) (o2 : List Int) => Row U5 q2 o2.length c2 o2 :: RdR U5 ((Td.ec 23 (.sl 5 (.int .u8))).g Ls (i : Int)).p ((Td.ec 23 (.sl 5 (.int .u8))).g Ls (i : Int)).l.length ((Td.ec 23 (.sl 5 (.int .u8))).g Ls (i : Int)).l :: Cel b1 25 [.slice pb Ls.length cb, .slice pm M.length cm] :: Deep 23 (.sl 5 (.int .u8)) pb Ls.length Ls :: RdR U5 pm M.length M :: F) (fun (k : Nat) (q2 : Option Addr) (c2 : Nat) (o2 : List Int) => k ≤ (U5.g M (i : Int)).toNat ∧ BitP.Byt o2 ∧ o2.length ≤ 70000) (fun (k : Nat) (q2 : Option Addr) (c2 : Nat) (o2 : List Int) => (U5.g M (i : Int)).toNat - k) (i4 (0) (q) (c) (out) ?_ (.cons rfl (.cons rfl (.cons rfl (.cons rfl (.nil _))))) (sub (.cons (by exact rr1) (.cons (by exact rr0) (.cons (by exact rr0) (.cons (by exact rr0) (.cons (by exact rr0) .nil))))) (by exact dd0))) ?_
      ·
        exact ⟨Nat.zero_le _, hoB, hol⟩
      intro k q2 c2 o2
      rintro ⟨hk, hoB2, hol2⟩
      refine rL TTDfL 5 rfl ?_
      refine o_val (v_load V.s23 rfl (by exact mm2) rfl) rfl ?_
      refine o_val (v_move rfl) rfl ?_
      refine o_val (r_index (c := (U5)) V.sl23 rfl rfl (by exact rdH (fun _ _ h => h) mm4) (by omega) (by omega)) rfl ?_
      refine o_val (r_load (c := (U5)) V.s5 rfl (by exact rdH (fun _ _ h => h) mm4) (by omega) (by omega) rfl rfl) rfl ?_
      refine o_val (v_conv V.u5 Try.underlying3 rfl (wrapI (by omega) (by omega))) rfl ?_
      refine rO TTDfL 3 rfl ?_
      refine w_condD rfl (fun h40 => ?_) (fun h40 => ?_)
      ·
        refine rC TTDfL 10 rfl ?_
        refine o_val (v_load V.s22 rfl (by exact mm2) rfl) rfl ?_
        refine o_val (v_move rfl) rfl ?_
        refine o_val (r_index (c := ((Td.ec 23 (.sl 5 (.int .u8))))) V.sl22 rfl rfl (by exact deepH mm3) (by omega) (by omega)) rfl ?_
        refine o_val (r_load (c := ((Td.ec 23 (.sl 5 (.int .u8))))) V.s23 rfl (by exact deepH mm3) (by omega) (by omega) rfl rfl) rfl ?_
        refine rOs TTDfL 5 rfl (by omega) ?_
        refine w_condD rfl (fun h52 => ?_) (fun h52 => ?_)
        ·
          refine rC TTDfL 17 rfl ?_
          exact ret_ok (G := [Row U5 none 0 0 [], Deep 23 (.sl 5 (.int .u8)) pb Ls.length Ls, RdR U5 pm M.length M]) (res2 rfl rfl) ⟨false, none, 0, [], rfl, (by unfold BitP.Byt; intro x hx; cases hx), by decide, rfl⟩ (Sl.Sub.trans (sub_add0 (A := Row U5 none 0 0 []) (fun w0 => Row.nil U5 w0 _)) (sub (.cons (by exact rr0) (.cons (by exact rr3) (.cons (by exact rr3) .nil))) (by exact dd3)))
        ·
          refine rC TTDfL 5 rfl ?_
          refine o_val (v_load V.s22 rfl (by exact mm2) rfl) rfl ?_
          refine o_val (v_move rfl) rfl ?_
          refine o_val (r_index (c := ((Td.ec 23 (.sl 5 (.int .u8))))) V.sl22 rfl rfl (by exact deepH mm3) (by omega) (by omega)) rfl ?_
          refine o_val (r_load (c := ((Td.ec 23 (.sl 5 (.int .u8))))) V.s23 rfl (by exact deepH mm3) (by omega) (by omega) rfl rfl) rfl ?_
          refine r_append (c := (U5)) V.sl23 V.z5 rfl rfl rfl rfl (by exact rr0) (by exact rdH (fun _ _ h => h) mm1) (by omega) rfl ?_
          intro p59 c59
          refine rOs TTDfL 9 rfl (by omega) ?_
          rw [show o2.length + ((Td.ec 23 (.sl 5 (.int .u8))).g Ls (i : Int)).l.length = (o2 ++ ((Td.ec 23 (.sl 5 (.int .u8))).g Ls (i : Int)).l).length from List.length_append.symm]
          exact j4 (k + 1) _ _ (o2 ++ ((Td.ec 23 (.sl 5 (.int .u8))).g Ls (i : Int)).l) ⟨⟨by omega, DefP.Byt.app hoB2 hxb, by rw [List.length_append]; omega⟩, by omega⟩ (.cons rfl (.cons rfl (.cons rfl (.cons rfl (.nil _))))) (sub (.cons (by exact rr0) (.cons (by exact rr0) (.cons (by exact rr0) (.cons (by exact rr0) (.cons (by exact rr0) .nil))))) (by exact dd0))
      ·
        refine rCs TTDfL 11 rfl (by omega) ?_
        refine j4 (i + 1) (_) (_) (_) ?_ (.cons rfl (.cons rfl (.cons rfl (.nil _)))) (sub (.cons (by exact rr0) (.cons (by exact rr1) (.cons (by exact rr1) (.cons (by exact rr1) .nil)))) (by exact dd1))
        exact ⟨⟨by omega, by assumption, by assumption⟩, by omega⟩
    ·
      refine rC TTDfL 13 rfl ?_
      exact ret_ok (G := [Row U5 q out.length c out, Deep 23 (.sl 5 (.int .u8)) pb Ls.length Ls, RdR U5 pm M.length M]) (res2 rfl rfl) ⟨true, q, c, out, rfl, hoB, hol, rfl⟩ (sub (.cons (by exact rr0) (.cons (by exact rr1) (.cons (by exact rr1) .nil))) (by exact dd1))
  ·
    refine rC TTDfL 4 rfl ?_
    refine o_val (v_load V.s22 rfl (by exact mm0) rfl) rfl ?_
    refine o_val (v_len (ty' := 0) Try.underlying22 rfl) rfl ?_
    refine o_val (v_F (v_gtr rfl rfl) (by omega)) rfl ?_
    refine rO TTDfL 2 rfl ?_
    refine o_want rfl ?_
    refine o_val (v_load V.s23 rfl (by exact mm0) rfl) rfl ?_
    refine rO TTDfL 2 rfl ?_
    refine o_want rfl ?_
    refine o_val (v_load V.s22 rfl (by exact mm0) rfl) rfl ?_
    refine o_want rfl ?_
    refine o_val (v_len (ty' := 0) Try.underlying22 rfl) rfl ?_
    refine o_want rfl ?_
    refine o_val (v_F (v_lss rfl rfl) (by omega)) rfl ?_
    refine rO TTDfL 3 rfl ?_
    refine o_want rfl ?_
    refine o_val (v_load V.s23 rfl (by exact mm0) rfl) rfl ?_
    refine o_want rfl ?_
    refine o_val (v_len (ty' := 0) Try.underlying23 rfl) rfl ?_
    refine o_want rfl ?_
    refine o_val (v_T (v_gtr rfl rfl) (by omega)) rfl ?_
    refine rO TTDfL 12 rfl ?_
    exact ret_ok (G := [Row U5 none 0 0 [], Deep 23 (.sl 5 (.int .u8)) pb Ls.length Ls, RdR U5 pm M.length M]) (res2 rfl rfl) ⟨false, none, 0, [], rfl, (by unfold BitP.Byt; intro x hx; cases hx), by decide, rfl⟩ (Sl.Sub.trans (sub_add0 (A := Row U5 none 0 0 []) (fun w0 => Row.nil U5 w0 _)) (sub (.cons (by exact rr0) (.cons (by exact rr1) (.cons (by exact rr1) .nil))) (by exact dd1)))
  ·
    refine rC TTDfL 4 rfl ?_
    refine o_val (v_load V.s22 rfl (by exact mm0) rfl) rfl ?_
    refine o_val (v_len (ty' := 0) Try.underlying22 rfl) rfl ?_
    refine o_val (v_F (v_gtr rfl rfl) (by omega)) rfl ?_
    refine rO TTDfL 2 rfl ?_
    refine o_want rfl ?_
    refine o_val (v_load V.s23 rfl (by exact mm0) rfl) rfl ?_
    refine rO TTDfL 2 rfl ?_
    refine o_want rfl ?_
    refine o_val (v_load V.s22 rfl (by exact mm0) rfl) rfl ?_
    refine o_want rfl ?_
    refine o_val (v_len (ty' := 0) Try.underlying22 rfl) rfl ?_
    refine o_want rfl ?_
    refine o_val (v_T (v_lss rfl rfl) (by omega)) rfl ?_
    refine rO TTDfL 18 rfl ?_
    exact ret_ok (G := [Row U5 none 0 0 [], Deep 23 (.sl 5 (.int .u8)) pb Ls.length Ls, RdR U5 pm M.length M]) (res2 rfl rfl) ⟨false, none, 0, [], rfl, (by unfold BitP.Byt; intro x hx; cases hx), by decide, rfl⟩ (Sl.Sub.trans (sub_add0 (A := Row U5 none 0 0 []) (fun w0 => Row.nil U5 w0 _)) (sub (.cons (by exact rr0) (.cons (by exact rr1) (.cons (by exact rr1) .nil))) (by exact dd1)))
  ·
    refine rC TTDfL 4 rfl ?_
    refine o_val (v_load V.s22 rfl (by exact mm0) rfl) rfl ?_
    refine o_val (v_len (ty' := 0) Try.underlying22 rfl) rfl ?_
    refine o_val (v_T (v_gtr rfl rfl) (by omega)) rfl ?_
    refine rO TTDfL 26 rfl ?_
    exact ret_ok (G := [Row U5 none 0 0 [], Deep 23 (.sl 5 (.int .u8)) pb Ls.length Ls, RdR U5 pm M.length M]) (res2 rfl rfl) ⟨false, none, 0, [], rfl, (by unfold BitP.Byt; intro x hx; cases hx), by decide, rfl⟩ (Sl.Sub.trans (sub_add0 (A := Row U5 none 0 0 []) (fun w0 => Row.nil U5 w0 _)) (sub (.cons (by exact rr0) (.cons (by exact rr1) (.cons (by exact rr1) .nil))) (by exact dd1)))
end Go.Proofs.Ythmgkggpipnalaa

/-
  Steps of the proof: walks of functions that the statement reaches; printed by a program of ours.
-/
namespace Go.Proofs.Ythmgkggpipnalaa
open Go.Sl 
set_option linter.unusedVariables false
theorem TTDfM : okT Try.prog ⟨[23], []⟩ = true := by kernel_rfl
set_option linter.unusedSimpArgs false

attribute [local irreducible] DefP.shF InfP.Res DefP.most BitP.Byt

end Go.Proofs.Ythmgkggpipnalaa

/-
  Steps of the proof: walks of functions that the statement reaches; printed by a program of ours.
-/
namespace Go.Proofs.Ythmgkggpipnalaa
open Go.Sl 
set_option linter.unusedVariables false
theorem TTDfN : okT Try.prog ⟨[23], []⟩ = true := by kernel_rfl
set_option linter.unusedSimpArgs false

attribute [local irreducible] DefP.shF InfP.Res DefP.most BitP.Byt


theorem d_infT (p : Option Addr) (c n : Nat) (B t L : List Int) (R : HProp) (hR : ∀ w0 h, R w0 h → RdR U5 p n L w0 h) (hL : L = DefP.shF B ++ t) (hn : L.length = n) (hB : BitP.Byt B) (ht : BitP.Byt t) (hl : B.length ≤ 4194304) (hln : n ≤ 100000000) (mo : Int) (hm : mo = (B.length : Int)) : Ctr Try.prog 12 [.slice p n c, .int .i64 mo] [R] (Ret fun v G => ∃ qq cq, v = .tuple #[.slice qq B.length cq, .int .i64 ((DefP.shF B).length : Int), .int .i64 0] ∧ G = [Row U5 qq B.length cq B, R]) := by
  subst hm; subst hn; subst hL
  exact d_inf p c (DefP.shF B ++ t) R hR (by omega) (DefP.Byt.app (DefP.shF_byt hl hB) ht) _ (by omega) (B, ((DefP.shF B).length : Int), 0) (DefP.sh_res hl hB ht)


set_option maxHeartbeats 8000000 in
set_option maxRecDepth 100000 in
theorem l_same (pb : Option Addr) (cb : Nat) (Ls : List (Td.Ty (.sl 5 (.int .u8)))) (pm : Option Addr) (cm : Nat) (M : List Int) (hM : BitP.Byt M) (hlim : ∀ y ∈ Ls, y.cap ≤ 140737488351232) (pb2 : Option Addr) (cb2 : Nat) (Ls2 : List (Td.Ty (.sl 5 (.int .u8)))) (pm2 : Option Addr) (cm2 : Nat) (M2 : List Int) (hM2 : BitP.Byt M2) (hlim2 : ∀ y ∈ Ls2, y.cap ≤ 140737488351232) : Ctr Try.prog 7 [.agg #[.slice pb Ls.length cb, .slice pm M.length cm], .agg #[.slice pb2 Ls2.length cb2, .slice pm2 M2.length cm2]] [Deep 23 (.sl 5 (.int .u8)) pb Ls.length Ls, RdR U5 pm M.length M, Deep 23 (.sl 5 (.int .u8)) pb2 Ls2.length Ls2, RdR U5 pm2 M2.length M2] (Ret fun v G => v = .bool true ∧ G = [Deep 23 (.sl 5 (.int .u8)) pb Ls.length Ls, RdR U5 pm M.length M, Deep 23 (.sl 5 (.int .u8)) pb2 Ls2.length Ls2, RdR U5 pm2 M2.length M2]) := by
  refine spec_of [(0, _), (1, _)] Try.func7 rfl Try.ntmps7 rfl rfl ?_
  intro w0 F
  refine rT TTDfN 2 rfl ?_
  refine o_box rfl (cs := [_, _]) rfl rfl ?_
  intro b2
  refine o_box rfl (cs := [_, _]) rfl rfl ?_
  intro b3
  refine rO TTDfN 6 rfl ?_
  refine o_call (l_awake) V.b9  rfl .nil rfl ?_
  rintro _ _ ⟨rfl, rfl⟩
  refine rO TTDfN 8 rfl ?_
  refine o_val (v_loadAgg V.a25 rfl (by exact mm1) (vs := [_, _]) rfl rfl) rfl ?_
  refine o_call (l_make pb cb Ls pm cm M hM hlim) V.b10  rfl (.cons (by exact rr2) (.cons (by exact rr2) .nil)) rfl ?_
  rintro _ _ ⟨ok, qx, cx, x, rfl, hxB, hxl, rfl⟩
  refine rO TTDfN 9 rfl ?_
  refine o_val (v_loadAgg V.a25 rfl (by exact mm3) (vs := [_, _]) rfl rfl) rfl ?_
  refine o_call (l_make pb2 cb2 Ls2 pm2 cm2 M2 hM2 hlim2) V.b10  rfl (.cons (by exact rr5) (.cons (by exact rr5) .nil)) rfl ?_
  rintro _ _ ⟨is_, qy, cy, y, rfl, hyB, hyl, rfl⟩
  refine rO TTDfN 7 rfl ?_
  rcases (DefP.or4 ok is_ (20000 < x.length + y.length)) with rfl | ⟨rfl, rfl⟩ | ⟨rfl, rfl, hs⟩ | ⟨rfl, rfl, hs⟩
  ·
    refine rC TTDfN 27 rfl ?_
    exact ret_ok (G := [Deep 23 (.sl 5 (.int .u8)) pb Ls.length Ls, RdR U5 pm M.length M, Deep 23 (.sl 5 (.int .u8)) pb2 Ls2.length Ls2, RdR U5 pm2 M2.length M2]) (res1 rfl) ⟨rfl, rfl⟩ (sub (.cons (by exact rr4) (.cons (by exact rr4) (.cons (by exact rr1) (.cons (by exact rr1) .nil)))) (by exact dd4))
  ·
    refine rC TTDfN 27 rfl ?_
    exact ret_ok (G := [Deep 23 (.sl 5 (.int .u8)) pb Ls.length Ls, RdR U5 pm M.length M, Deep 23 (.sl 5 (.int .u8)) pb2 Ls2.length Ls2, RdR U5 pm2 M2.length M2]) (res1 rfl) ⟨rfl, rfl⟩ (sub (.cons (by exact rr4) (.cons (by exact rr4) (.cons (by exact rr1) (.cons (by exact rr1) .nil)))) (by exact dd4))
  ·
    refine rCs TTDfN 15 rfl (by omega) ?_
    refine o_want rfl ?_
    refine o_val (v_T (v_gtr rfl rfl) (by omega)) rfl ?_
    refine rO TTDfN 11 rfl ?_
    exact ret_ok (G := [Deep 23 (.sl 5 (.int .u8)) pb Ls.length Ls, RdR U5 pm M.length M, Deep 23 (.sl 5 (.int .u8)) pb2 Ls2.length Ls2, RdR U5 pm2 M2.length M2]) (res1 rfl) ⟨rfl, rfl⟩ (sub (.cons (by exact rr4) (.cons (by exact rr4) (.cons (by exact rr1) (.cons (by exact rr1) .nil)))) (by exact dd4))
  ·
    refine rCs TTDfN 15 rfl (by omega) ?_
    refine o_want rfl ?_
    refine o_val (v_F (v_gtr rfl rfl) (by omega)) rfl ?_
    refine rO TTDfN 7 rfl ?_
    have hgx := DefP.gd hxB (by omega)
    have hgy := DefP.gd hyB (by omega)
    have hzx := hgx.zb
    have hzy := hgy.zb
    have hvB := hgy.byt
    have hNl : ([] ++ (DefP.shF x) ++ (DefP.shF y)).length = (0 + (DefP.shF x).length + (DefP.shF y).length) := by rw [List.length_append]; rw [show [] ++ (DefP.shF x) = (DefP.shF x) from rfl]; omega
    have hdr : ([] ++ (DefP.shF x) ++ (DefP.shF y)).drop (DefP.shF x).length = (DefP.shF y) := by rw [show [] ++ (DefP.shF x) ++ (DefP.shF y) = (DefP.shF x) ++ (DefP.shF y) from rfl]; exact List.drop_left
    refine rC TTDfN 2 rfl ?_
    refine o_call (m_all qx cx x (Row U5 qx x.length cx x) (fun _ _ hh => hh.rd) (by omega) hxB) V.b11  rfl (.cons (by exact rr3) .nil) rfl ?_
    rintro _ _ ⟨qu, cu, rfl, rfl⟩
    refine o_val (v_move rfl) rfl ?_
    refine o_call (m_all qy cy y (Row U5 qy y.length cy y) (fun _ _ hh => hh.rd) (by omega) hyB) V.b11  rfl (.cons (by exact rr2) .nil) rfl ?_
    rintro _ _ ⟨qv, cv, rfl, rfl⟩
    refine rO TTDfN 6 rfl ?_
    refine r_build (U5) [] V.sl23 V.z5 rfl rfl rfl rfl rfl rfl ?_
    intro b48
    refine o_val (v_move rfl) rfl ?_
    refine r_append (c := (U5)) V.sl23 V.z5 rfl rfl rfl rfl (by exact rr0) (by exact own mm4) (by omega) rfl ?_
    intro p50 c50
    refine o_call (m_allN p50 c50 (0 + x.length) x (Row U5 p50 (0 + x.length) c50 ([] ++ x)) (fun _ _ hh => hh.rd) (by omega) (by omega) hxB) V.b11  rfl (.cons (by exact rr0) .nil) rfl ?_
    rintro _ _ ⟨qw, cw, rfl, rfl⟩
    refine rO TTDfN 5 rfl ?_
    refine r_build (U5) [] V.sl23 V.z5 rfl rfl rfl rfl rfl rfl ?_
    intro b53
    refine o_val (v_move rfl) rfl ?_
    refine r_append (c := (U5)) V.sl23 V.z5 rfl rfl rfl rfl (by exact rr0) (by exact own mm5) (by omega) rfl ?_
    intro p55 c55
    refine o_val (v_move rfl) rfl ?_
    refine r_append (c := (U5)) V.sl23 V.z5 rfl rfl rfl rfl (by exact rr0) (by exact own mm3) (by omega) rfl ?_
    intro p57 c57
    refine rO TTDfN 2 rfl ?_
    refine o_call (d_infT p57 c57 (0 + (DefP.shF x).length + (DefP.shF y).length) x (DefP.shF y) ([] ++ (DefP.shF x) ++ (DefP.shF y)) (Row U5 p57 (0 + (DefP.shF x).length + (DefP.shF y).length) c57 ([] ++ (DefP.shF x) ++ (DefP.shF y))) (fun _ _ hh => hh.rd) rfl hNl hxB hvB (by omega) (by omega) (x.length : Int) rfl) V.b12  rfl (.cons (by exact rr0) .nil) rfl ?_
    rintro _ _ ⟨q61, c61, rfl, rfl⟩
    refine rO TTDfN 11 rfl ?_
    refine r_build (U5) [] V.sl23 V.z5 rfl rfl rfl rfl rfl rfl ?_
    intro b65
    refine o_val (v_move rfl) rfl ?_
    refine r_append (c := (U5)) V.sl23 V.z5 rfl rfl rfl rfl (by exact rr0) (by exact own mm7) (by omega) rfl ?_
    intro p67 c67
    refine o_val (v_move rfl) rfl ?_
    refine r_append (c := (U5)) V.sl23 V.z5 rfl rfl rfl rfl (by exact rr0) (by exact own mm5) (by omega) rfl ?_
    intro p69 c69
    refine rO TTDfN 3 rfl ?_
    refine o_val (v_to (v := .int .i64 ((DefP.shF x).length : Int)) (v_min rfl rfl) (by rw [if_neg (by omega)])) rfl ?_
    refine o_cap (p := p69) (n := (0 + (DefP.shF x).length + (DefP.shF y).length)) (cap := c69) (l := ([] ++ (DefP.shF x) ++ (DefP.shF y))) (c := U5) (by exact mm0) fun hcap => ?_
    refine o_val (v_slice (DefP.shF x).length (0 + (DefP.shF x).length + (DefP.shF y).length) c69 V.sl23 rfl ⟨_, rfl⟩ ⟨rfl, rfl⟩ rfl (by omega) (by omega) (by omega)) rfl ?_
    refine rO TTDfN 2 rfl ?_
    refine o_call (d_infT (subP p69 (DefP.shF x).length c69 1) (c69 - (DefP.shF x).length) ((0 + (DefP.shF x).length + (DefP.shF y).length) - (DefP.shF x).length) y [] (DefP.shF y) (Row U5 p69 (0 + (DefP.shF x).length + (DefP.shF y).length) c69 ([] ++ (DefP.shF x) ++ (DefP.shF y))) (fun w0 h hh => by have h1 := rdr_drop (c := U5) (p := p69) (R := Row U5 p69 (0 + (DefP.shF x).length + (DefP.shF y).length) c69 ([] ++ (DefP.shF x) ++ (DefP.shF y))) (fun _ _ hh => hh.rd) hNl (DefP.shF x).length c69 (by omega) hcap w0 h hh; rw [hdr] at h1; exact h1) (List.append_nil _).symm (by omega) hyB DefP.byt_nil (by omega) (by omega) (y.length : Int) rfl) V.b12  rfl (.cons (by exact rr0) .nil) rfl ?_
    rintro _ _ ⟨q78, c78, rfl, rfl⟩
    refine rO TTDfN 12 rfl ?_
    refine o_val (v_str (T := 5) Try.underlying23 Try.underlying5 Try.underlying9 rfl (by exact own mm8)) rfl ?_
    refine o_val (v_move rfl) rfl ?_
    refine o_val (v_str (T := 5) Try.underlying23 Try.underlying5 Try.underlying9 rfl (by exact own mm4)) rfl ?_
    refine o_val (v_sself rfl rfl) rfl ?_
    refine rO TTDfN 2 rfl ?_
    refine o_want rfl ?_
    refine o_val (v_T (v_eql rfl rfl) rfl) rfl ?_
    refine rO TTDfN 3 rfl ?_
    refine o_want rfl ?_
    refine o_val (v_T (v_eql rfl rfl) rfl) rfl ?_
    refine rO TTDfN 5 rfl ?_
    refine o_want rfl ?_
    refine o_val (v_T (v_eql rfl rfl) rfl) rfl ?_
    refine rO TTDfN 5 rfl ?_
    refine o_want rfl ?_
    refine o_val (v_T (v_eql rfl rfl) rfl) rfl ?_
    refine rO TTDfN 3 rfl ?_
    refine o_want rfl ?_
    refine o_val (v_str (T := 5) Try.underlying23 Try.underlying5 Try.underlying9 rfl (by exact own mm2)) rfl ?_
    refine o_want rfl ?_
    refine o_val (v_move rfl) rfl ?_
    refine o_want rfl ?_
    refine o_val (v_str (T := 5) Try.underlying23 Try.underlying5 Try.underlying9 rfl (by exact own mm9)) rfl ?_
    refine o_want rfl ?_
    refine o_val (v_sself rfl rfl) rfl ?_
    refine rO TTDfN 3 rfl ?_
    refine o_want rfl ?_
    refine o_val (v_str (T := 5) Try.underlying23 Try.underlying5 Try.underlying9 rfl (by exact own mm0)) rfl ?_
    refine o_want rfl ?_
    refine o_val (v_move rfl) rfl ?_
    refine o_want rfl ?_
    refine o_val (v_str (T := 5) Try.underlying23 Try.underlying5 Try.underlying9 rfl (by exact own mm7)) rfl ?_
    refine o_want rfl ?_
    refine o_val (v_sself rfl rfl) rfl ?_
    refine rO TTDfN 5 rfl ?_
    exact ret_ok (G := [Deep 23 (.sl 5 (.int .u8)) pb Ls.length Ls, RdR U5 pm M.length M, Deep 23 (.sl 5 (.int .u8)) pb2 Ls2.length Ls2, RdR U5 pm2 M2.length M2]) (res1 rfl) ⟨rfl, rfl⟩ (sub (.cons (by exact rr12) (.cons (by exact rr12) (.cons (by exact rr10) (.cons (by exact rr10) .nil)))) (by exact dd12))
end Go.Proofs.Ythmgkggpipnalaa

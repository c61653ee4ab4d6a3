/- Steps of the proof: the walks of the functions that the statement reaches; printed by a program of ours. -/
import Derived.Test.YthmgkggpipnalaaSl22
import Derived.KernelRfl
import Derived.Test.YthmgkggpipnalaaM49
import Derived.Test.YthmgkggpipnalaaM32
import Derived.Test.YthmgkggpipnalaaM52
import Derived.Test.YthmgkggpipnalaaM33
import Derived.Test.YthmgkggpipnalaaSl13
import Derived.Test.YthmgkggpipnalaaSlLim
/-
  Steps of the proof: walks of functions that the statement reaches; printed by a program of ours.
-/
namespace Go.Proofs.Ythmgkggpipnalaa
open Go.Sl 
set_option linter.unusedVariables false
theorem TTDfJ : okT Try.prog ⟨[23], []⟩ = true := by kernel_rfl
set_option linter.unusedSimpArgs false

attribute [local irreducible] DefP.shF InfP.Res DefP.most DefP.nzV DefP.nxR List.replicate BitP.Byt


theorem m_allN (p : Option Addr) (c n : Nat) (B : List Int) (R : HProp) (hR : ∀ w0 h, R w0 h → RdR U5 p n B w0 h) (hn : B.length = n) (hl : n ≤ 4194304) (hB : BitP.Byt B) : Ctr Try.prog 11 [.slice p n c] [R] (Ret fun v G => ∃ q c, v = .slice q (DefP.shF B).length c ∧ G = [Row U5 q (DefP.shF B).length c (DefP.shF B), R]) := by
  subst hn
  exact m_all p c B R hR hl hB
theorem d_infZ (q : Option Addr) (c : Nat) (B : List Int) (hg : DefP.Gd B) (mo : Int) (hm : mo = (B.length : Int)) (hl : B.length ≤ 4194304) : Ctr Try.prog 12 [.slice q (DefP.shF B).length c, .int .i64 mo] [Row U5 q (DefP.shF B).length c (DefP.shF B)] (Ret fun v G => ∃ qq cq, v = .tuple #[.slice qq B.length cq, .int .i64 ((DefP.shF B).length : Int), .int .i64 0] ∧ G = [Row U5 qq B.length cq B, Row U5 q (DefP.shF B).length c (DefP.shF B)]) := by
  subst hm
  exact d_inf q c (DefP.shF B) (Row U5 q (DefP.shF B).length c (DefP.shF B)) (fun _ _ hh => hh.rd) (by have := hg.zb; omega) hg.byt _ (by omega) (B, ((DefP.shF B).length : Int), 0) hg.res


set_option maxHeartbeats 2000000 in
set_option maxRecDepth 100000 in
theorem l_awake  : Ctr Try.prog 9 [] [] (Ret fun v G => v = .bool true ∧ G = []) := by
  refine spec_of [] Try.func9 rfl Try.ntmps9 rfl rfl ?_
  intro w0 F
  obtain ⟨Z, hZ⟩ : ∃ Z : List Int, Z = List.replicate 2000 0 := ⟨_, rfl⟩
  have hZl : Z.length = 2000 := by rw [hZ, List.length_replicate]
  have hZB : BitP.Byt Z := by rw [hZ]; exact DefP.byt_rep 2000 (by decide)
  have hg := DefP.gd hZB (by omega)
  have h264 := DefP.zeros_264 hZ
  refine rT TTDfJ 7 rfl ?_
  refine r_makeN 2000 2000 (U5) rfl rfl V.sl23 V.z5 rfl rfl rfl rfl (by omega) (by omega) rfl rfl ?_
  intro b6
  refine rO TTDfJ 4 rfl ?_
  rw [show List.replicate 2000 U5.d = Z from hZ.symm]
  refine rC TTDfJ 2 rfl ?_
  refine o_call (m_allN (some ⟨b6, 0, none⟩) 2000 2000 Z (Row U5 (some ⟨b6, 0, none⟩) 2000 2000 Z) (fun _ _ hh => hh.rd) hZl (by omega) hZB) V.b11  rfl (.cons (by exact rr0) .nil) rfl ?_
  rintro _ _ ⟨q7, c7, rfl, rfl⟩
  refine rO TTDfJ 6 rfl ?_
  refine o_call (d_infZ q7 c7 Z hg 2000 (by omega) (by omega)) V.b12  rfl (.cons (by exact rr0) .nil) rfl ?_
  rintro _ _ ⟨q11, c11, rfl, rfl⟩
  refine rO TTDfJ 12 rfl ?_
  refine o_val (v_T (v_eql rfl rfl) rfl) rfl ?_
  refine rO TTDfJ 4 rfl ?_
  refine o_want rfl ?_
  refine o_val (v_T (v_eql rfl rfl) rfl) rfl ?_
  refine rO TTDfJ 4 rfl ?_
  refine o_want rfl ?_
  refine o_val (v_T (v_eql rfl rfl) (by omega)) rfl ?_
  refine rO TTDfJ 4 rfl ?_
  refine o_want rfl ?_
  refine o_val (v_T (v_leq rfl rfl) (by omega)) rfl ?_
  refine rO TTDfJ 2 rfl ?_
  refine o_want rfl ?_
  refine o_call (m_most 0 (by decide)) V.b13  rfl .nil rfl ?_
  rintro _ _ ⟨rfl, rfl⟩
  refine o_want rfl ?_
  refine o_val (v_T (v_eql rfl rfl) (by rw [DefP.most_eq (by decide)]; decide)) rfl ?_
  refine rO TTDfJ 5 rfl ?_
  exact ret_ok (G := []) (res1 rfl) ⟨rfl, rfl⟩ (sub .nil (by exact dd3))


end Go.Proofs.Ythmgkggpipnalaa

/-
  Steps of the proof: walks of functions that the statement reaches; printed by a program of ours.
-/
namespace Go.Proofs.Ythmgkggpipnalaa
open Go.Sl 
set_option linter.unusedVariables false
theorem TTDfK : okT Try.prog ⟨[23], []⟩ = true := by kernel_rfl
set_option linter.unusedSimpArgs false

attribute [local irreducible] DefP.shF InfP.Res DefP.most DefP.nzV DefP.nxR BitP.Byt

end Go.Proofs.Ythmgkggpipnalaa

/-
  Steps of the proof: walks of functions that the statement reaches; printed by a program of ours.
-/
namespace Go.Proofs.Ythmgkggpipnalaa
open Go.Sl 
set_option linter.unusedVariables false
theorem TTDfL : okT Try.prog ⟨[22, 23], [(25, 0, 0), (25, 1, 1)]⟩ = true := by kernel_rfl
set_option linter.unusedSimpArgs false

attribute [local irreducible] DefP.shF InfP.Res DefP.most BitP.Byt

set_option maxHeartbeats 4000000 in
set_option maxRecDepth 100000 in
theorem l_make (pb : Option Addr) (cb : Nat) (Ls : List (Td.Ty (.sl 5 (.int .u8)))) (pm : Option Addr) (cm : Nat) (M : List Int) (hM : BitP.Byt M) (hlim : ∀ y ∈ Ls, y.cap ≤ 140737488351232) : Ctr Try.prog 10 [.agg #[.slice pb Ls.length cb, .slice pm M.length cm]] [Deep 23 (.sl 5 (.int .u8)) pb Ls.length Ls, RdR U5 pm M.length M] (Ret fun v G => ∃ ok q c out, v = .tuple #[.slice q out.length c, .bool ok] ∧ BitP.Byt out ∧ out.length ≤ 70000 ∧ G = [Row U5 q out.length c out, Deep 23 (.sl 5 (.int .u8)) pb Ls.length Ls, RdR U5 pm M.length M]) := by
  refine spec_of [(0, _)] Try.func10 rfl Try.ntmps10 rfl rfl ?_
  intro w0 F
  refine rT TTDfL 2 rfl ?_
  refine o_box rfl (cs := [_, _]) rfl rfl ?_
  intro b1
  refine rO TTDfL 9 rfl ?_
  rcases (InfP.or3b (Ls.length ≤ 50) (Ls.length ≤ M.length) (M.length ≤ 100)) with ⟨hl1, hl2, hl3⟩ | ⟨hl1, hl2, hl3⟩ | ⟨hl1, hl2⟩ | hl1
  ·
    refine rC TTDfL 4 rfl ?_
    refine o_val (v_load V.s22 rfl (by exact mm0) rfl) rfl ?_
    refine o_val (v_len (ty' := 0) Try.underlying22 rfl) rfl ?_
    refine o_val (v_F (v_gtr rfl rfl) (by omega)) rfl ?_
    refine rO TTDfL 2 rfl ?_
    refine o_want rfl ?_
    refine o_val (v_load V.s23 rfl (by exact mm0) rfl) rfl ?_
    refine rO TTDfL 2 rfl ?_
    refine o_want rfl ?_
    refine o_val (v_load V.s22 rfl (by exact mm0) rfl) rfl ?_
    refine o_want rfl ?_
    refine o_val (v_len (ty' := 0) Try.underlying22 rfl) rfl ?_
    refine o_want rfl ?_
    refine o_val (v_F (v_lss rfl rfl) (by omega)) rfl ?_
    refine rO TTDfL 3 rfl ?_
    refine o_want rfl ?_
    refine o_val (v_load V.s23 rfl (by exact mm0) rfl) rfl ?_
    refine o_want rfl ?_
    refine o_val (v_len (ty' := 0) Try.underlying23 rfl) rfl ?_
    refine o_want rfl ?_
    refine o_val (v_F (v_gtr rfl rfl) (by omega)) rfl ?_
    refine rO TTDfL 13 rfl ?_
    refine w_add0 (Row U5 none 0 0 []) (Row.nil _ _ _) ?_
    refine w_loop4 (fun (i : Nat) (q : Option Addr) (c : Nat) (out : List Int) => [(1, .pointer (some ⟨b1, 0, none⟩)), (4, .slice q out.length c), (5, .int .i64 (i : Int))]) (fun (i : Nat) (q : Option Addr) (c : Nat) (out : List Int) => Row U5 q out.length c out :: Cel b1 25 [.slice pb Ls.length cb, .slice pm M.length cm] :: Deep 23 (.sl 5 (.int .u8)) pb Ls.length Ls :: RdR U5 pm M.length M :: F) (fun (i : Nat) (q : Option Addr) (c : Nat) (out : List Int) => i ≤ Ls.length ∧ BitP.Byt out ∧ out.length ≤ 70000) (fun (i : Nat) (q : Option Addr) (c : Nat) (out : List Int) => Ls.length - i) (i4 (0) (none) (0) ([]) ?_ (.cons rfl (.cons rfl (.cons rfl (.nil _)))) (sub (.cons (by exact rr0) (.cons (by exact rr0) (.cons (by exact rr0) (.cons (by exact rr0) .nil)))) (by exact dd0))) ?_
    ·
      exact ⟨Nat.zero_le _, (by unfold BitP.Byt; intro x hx; cases hx), by decide⟩
    intro i q c out
    rintro ⟨hi, hoB, hol⟩
    refine rL TTDfL 5 rfl ?_
    refine o_val (v_load V.s22 rfl (by exact mm1) rfl) rfl ?_
    refine rO TTDfL 4 rfl ?_
    refine w_condD rfl (fun h30 => ?_) (fun h30 => ?_)
    ·
      refine rC TTDfL 5 rfl ?_
      refine w_holds (by exact mm2) (fun hD => ?_)
      have hi2 : i < Ls.length := by omega
      have hx3 := hD _ (List.getElem_mem hi2)
      have hgm := (Td.ec 23 (.sl 5 (.int .u8))).g_nat hi2
      rw [← hgm] at hx3
      have hXl : ((Td.ec 23 (.sl 5 (.int .u8))).g Ls (i : Int)).l.length ≤ 140737488351232 := by rw [hgm]; have h1 := (hlim _ (List.getElem_mem hi2)); have h2 := (hx3).1.1; rw [hgm] at h2; exact Nat.le_trans h2 h1
      refine w_add0 (RdR U5 ((Td.ec 23 (.sl 5 (.int .u8))).g Ls (i : Int)).p ((Td.ec 23 (.sl 5 (.int .u8))).g Ls (i : Int)).l.length ((Td.ec 23 (.sl 5 (.int .u8))).g Ls (i : Int)).l) hx3.2.1 ?_
      have hxb : BitP.Byt ((Td.ec 23 (.sl 5 (.int .u8))).g Ls (i : Int)).l := by unfold BitP.Byt; exact fun x hx => byte_in (hx3.2.2 x hx)
      have hmv : 0 ≤ (U5.g M (i : Int)) ∧ (U5.g M (i : Int)) < 256 := BitP.Byt.get hM _
      refine rC TTDfL 5 rfl ?_
      refine w_loop4 (fun (k : Nat) (q2 : Option Addr) (c2 : Nat) (o2 : List Int) => [(1, .pointer (some ⟨b1, 0, none⟩)), (4, .slice q2 o2.length c2), (5, .int .i64 (i : Int)), (6, .int .i64 (k : Int))]) (fun (k : Nat) (q2 : Option Addr) (c2 : Nat) (o2 : List Int) => Row U5 q2 o2.length c2 o2 :: RdR U5 ((Td.ec 23 (.sl 5 (.int .u8))).g Ls (i : Int)).p ((Td.ec 23 (.sl 5 (.int .u8))).g Ls (i : Int)).l.length ((Td.ec 23 (.sl 5 (.int .u8))).g Ls (i : Int)).l :: Cel b1 25 [.slice pb Ls.length cb, .slice pm M.length cm] :: Deep 23 (.sl 5 (.int .u8)) pb Ls.length Ls :: RdR U5 pm M.length M :: F) (fun (k : Nat) (q2 : Option Addr) (c2 : Nat) (o2 : List Int) => k ≤ (U5.g M (i : Int)).toNat ∧ BitP.Byt o2 ∧ o2.length ≤ 70000) (fun (k : Nat) (q2 : Option Addr) (c2 : Nat) (o2 : List Int) => (U5.g M (i : Int)).toNat - k) (i4 (0) (q) (c) (out) ?_ (.cons rfl (.cons rfl (.cons rfl (.cons rfl (.nil _))))) (sub (.cons (by exact rr1) (.cons (by exact rr0) (.cons (by exact rr0) (.cons (by exact rr0) (.cons (by exact rr0) .nil))))) (by exact dd0))) ?_
      ·
        exact ⟨Nat.zero_le _, hoB, hol⟩
      intro k q2 c2 o2
      rintro ⟨hk, hoB2, hol2⟩
      refine rL TTDfL 5 rfl ?_
      refine o_val (v_load V.s23 rfl (by exact mm2) rfl) rfl ?_
      refine o_val (v_move rfl) rfl ?_
      refine o_val (r_index (c := (U5)) V.sl23 rfl rfl (by exact rdH (fun _ _ h => h) mm4) (by omega) (by omega)) rfl ?_
      refine o_val (r_load (c := (U5)) V.s5 rfl (by exact rdH (fun _ _ h => h) mm4) (by omega) (by omega) rfl rfl) rfl ?_
      refine o_val (v_conv V.u5 Try.underlying3 rfl (wrapI (by omega) (by omega))) rfl ?_
      refine rO TTDfL 3 rfl ?_
      refine w_condD rfl (fun h40 => ?_) (fun h40 => ?_)
      ·
        refine rC TTDfL 10 rfl ?_
        refine o_val (v_load V.s22 rfl (by exact mm2) rfl) rfl ?_
        refine o_val (v_move rfl) rfl ?_
        refine o_val (r_index (c := ((Td.ec 23 (.sl 5 (.int .u8))))) V.sl22 rfl rfl (by exact deepH mm3) (by omega) (by omega)) rfl ?_
        refine o_val (r_load (c := ((Td.ec 23 (.sl 5 (.int .u8))))) V.s23 rfl (by exact deepH mm3) (by omega) (by omega) rfl rfl) rfl ?_
        refine rOs TTDfL 5 rfl (by omega) ?_
        refine w_condD rfl (fun h52 => ?_) (fun h52 => ?_)
        ·
          refine rC TTDfL 17 rfl ?_
          exact ret_ok (G := [Row U5 none 0 0 [], Deep 23 (.sl 5 (.int .u8)) pb Ls.length Ls, RdR U5 pm M.length M]) (res2 rfl rfl) ⟨false, none, 0, [], rfl, (by unfold BitP.Byt; intro x hx; cases hx), by decide, rfl⟩ (Sl.Sub.trans (sub_add0 (A := Row U5 none 0 0 []) (fun w0 => Row.nil U5 w0 _)) (sub (.cons (by exact rr0) (.cons (by exact rr3) (.cons (by exact rr3) .nil))) (by exact dd3)))
        ·
          refine rC TTDfL 5 rfl ?_
          refine o_val (v_load V.s22 rfl (by exact mm2) rfl) rfl ?_
          refine o_val (v_move rfl) rfl ?_
          refine o_val (r_index (c := ((Td.ec 23 (.sl 5 (.int .u8))))) V.sl22 rfl rfl (by exact deepH mm3) (by omega) (by omega)) rfl ?_
          refine o_val (r_load (c := ((Td.ec 23 (.sl 5 (.int .u8))))) V.s23 rfl (by exact deepH mm3) (by omega) (by omega) rfl rfl) rfl ?_
          refine r_append (c := (U5)) V.sl23 V.z5 rfl rfl rfl rfl (by exact rr0) (by exact rdH (fun _ _ h => h) mm1) (by omega) rfl ?_
          intro p59 c59
          refine rOs TTDfL 9 rfl (by omega) ?_
          rw [show o2.length + ((Td.ec 23 (.sl 5 (.int .u8))).g Ls (i : Int)).l.length = (o2 ++ ((Td.ec 23 (.sl 5 (.int .u8))).g Ls (i : Int)).l).length from List.length_append.symm]
          exact j4 (k + 1) _ _ (o2 ++ ((Td.ec 23 (.sl 5 (.int .u8))).g Ls (i : Int)).l) ⟨⟨by omega, DefP.Byt.app hoB2 hxb, by rw [List.length_append]; omega⟩, by omega⟩ (.cons rfl (.cons rfl (.cons rfl (.cons rfl (.nil _))))) (sub (.cons (by exact rr0) (.cons (by exact rr0) (.cons (by exact rr0) (.cons (by exact rr0) (.cons (by exact rr0) .nil))))) (by exact dd0))
      ·
        refine rCs TTDfL 11 rfl (by omega) ?_
        refine j4 (i + 1) (_) (_) (_) ?_ (.cons rfl (.cons rfl (.cons rfl (.nil _)))) (sub (.cons (by exact rr0) (.cons (by exact rr1) (.cons (by exact rr1) (.cons (by exact rr1) .nil)))) (by exact dd1))
        exact ⟨⟨by omega, by assumption, by assumption⟩, by omega⟩
    ·
      refine rC TTDfL 13 rfl ?_
      exact ret_ok (G := [Row U5 q out.length c out, Deep 23 (.sl 5 (.int .u8)) pb Ls.length Ls, RdR U5 pm M.length M]) (res2 rfl rfl) ⟨true, q, c, out, rfl, hoB, hol, rfl⟩ (sub (.cons (by exact rr0) (.cons (by exact rr1) (.cons (by exact rr1) .nil))) (by exact dd1))
  ·
    refine rC TTDfL 4 rfl ?_
    refine o_val (v_load V.s22 rfl (by exact mm0) rfl) rfl ?_
    refine o_val (v_len (ty' := 0) Try.underlying22 rfl) rfl ?_
    refine o_val (v_F (v_gtr rfl rfl) (by omega)) rfl ?_
    refine rO TTDfL 2 rfl ?_
    refine o_want rfl ?_
    refine o_val (v_load V.s23 rfl (by exact mm0) rfl) rfl ?_
    refine rO TTDfL 2 rfl ?_
    refine o_want rfl ?_
    refine o_val (v_load V.s22 rfl (by exact mm0) rfl) rfl ?_
    refine o_want rfl ?_
    refine o_val (v_len (ty' := 0) Try.underlying22 rfl) rfl ?_
    refine o_want rfl ?_
    refine o_val (v_F (v_lss rfl rfl) (by omega)) rfl ?_
    refine rO TTDfL 3 rfl ?_
    refine o_want rfl ?_
    refine o_val (v_load V.s23 rfl (by exact mm0) rfl) rfl ?_
    refine o_want rfl ?_
    refine o_val (v_len (ty' := 0) Try.underlying23 rfl) rfl ?_
    refine o_want rfl ?_
    refine o_val (v_T (v_gtr rfl rfl) (by omega)) rfl ?_
    refine rO TTDfL 12 rfl ?_
    exact ret_ok (G := [Row U5 none 0 0 [], Deep 23 (.sl 5 (.int .u8)) pb Ls.length Ls, RdR U5 pm M.length M]) (res2 rfl rfl) ⟨false, none, 0, [], rfl, (by unfold BitP.Byt; intro x hx; cases hx), by decide, rfl⟩ (Sl.Sub.trans (sub_add0 (A := Row U5 none 0 0 []) (fun w0 => Row.nil U5 w0 _)) (sub (.cons (by exact rr0) (.cons (by exact rr1) (.cons (by exact rr1) .nil))) (by exact dd1)))
  ·
    refine rC TTDfL 4 rfl ?_
    refine o_val (v_load V.s22 rfl (by exact mm0) rfl) rfl ?_
    refine o_val (v_len (ty' := 0) Try.underlying22 rfl) rfl ?_
    refine o_val (v_F (v_gtr rfl rfl) (by omega)) rfl ?_
    refine rO TTDfL 2 rfl ?_
    refine o_want rfl ?_
    refine o_val (v_load V.s23 rfl (by exact mm0) rfl) rfl ?_
    refine rO TTDfL 2 rfl ?_
    refine o_want rfl ?_
    refine o_val (v_load V.s22 rfl (by exact mm0) rfl) rfl ?_
    refine o_want rfl ?_
    refine o_val (v_len (ty' := 0) Try.underlying22 rfl) rfl ?_
    refine o_want rfl ?_
    refine o_val (v_T (v_lss rfl rfl) (by omega)) rfl ?_
    refine rO TTDfL 18 rfl ?_
    exact ret_ok (G := [Row U5 none 0 0 [], Deep 23 (.sl 5 (.int .u8)) pb Ls.length Ls, RdR U5 pm M.length M]) (res2 rfl rfl) ⟨false, none, 0, [], rfl, (by unfold BitP.Byt; intro x hx; cases hx), by decide, rfl⟩ (Sl.Sub.trans (sub_add0 (A := Row U5 none 0 0 []) (fun w0 => Row.nil U5 w0 _)) (sub (.cons (by exact rr0) (.cons (by exact rr1) (.cons (by exact rr1) .nil))) (by exact dd1)))
  ·
    refine rC TTDfL 4 rfl ?_
    refine o_val (v_load V.s22 rfl (by exact mm0) rfl) rfl ?_
    refine o_val (v_len (ty' := 0) Try.underlying22 rfl) rfl ?_
    refine o_val (v_T (v_gtr rfl rfl) (by omega)) rfl ?_
    refine rO TTDfL 26 rfl ?_
    exact ret_ok (G := [Row U5 none 0 0 [], Deep 23 (.sl 5 (.int .u8)) pb Ls.length Ls, RdR U5 pm M.length M]) (res2 rfl rfl) ⟨false, none, 0, [], rfl, (by unfold BitP.Byt; intro x hx; cases hx), by decide, rfl⟩ (Sl.Sub.trans (sub_add0 (A := Row U5 none 0 0 []) (fun w0 => Row.nil U5 w0 _)) (sub (.cons (by exact rr0) (.cons (by exact rr1) (.cons (by exact rr1) .nil))) (by exact dd1)))
end Go.Proofs.Ythmgkggpipnalaa

/-
  Steps of the proof: walks of functions that the statement reaches; printed by a program of ours.
-/
namespace Go.Proofs.Ythmgkggpipnalaa
open Go.Sl 
set_option linter.unusedVariables false
theorem TTDfM : okT Try.prog ⟨[23], []⟩ = true := by kernel_rfl
set_option linter.unusedSimpArgs false

attribute [local irreducible] DefP.shF InfP.Res DefP.most BitP.Byt

end Go.Proofs.Ythmgkggpipnalaa

/-
  Steps of the proof: walks of functions that the statement reaches; printed by a program of ours.
-/
namespace Go.Proofs.Ythmgkggpipnalaa
open Go.Sl 
set_option linter.unusedVariables false
theorem TTDfO : okT Try.prog ⟨[23, 34], []⟩ = true := by kernel_rfl
set_option linter.unusedSimpArgs false

attribute [local irreducible] DefP.shF InfP.Res DefP.most BitP.Byt DN DD


section
variable (b : Nat) (B : List Int) (t : Nat)
theorem z_doneN : Ctr Try.prog 15 [.pointer (some ⟨b, 0, none⟩)] [DM b B (some t)] (Ret fun v G => v = .bool false ∧ G = [DM b B (some t)]) := m_doneN b B t
theorem z_doneD : Ctr Try.prog 15 [.pointer (some ⟨b, 0, none⟩)] [DM b B none] (Ret fun v G => v = .bool true ∧ G = [DM b B none]) := m_doneD b _
theorem z_stepD (n : Int) : Ctr Try.prog 16 [.pointer (some ⟨b, 0, none⟩), .int .i64 n] [DM b B none] (Ret fun v G => v = .bool true ∧ G = [DM b B none]) := m_stepD b _ n
theorem z_stepN0 (n : Int) (hn : n < 1) : Ctr Try.prog 16 [.pointer (some ⟨b, 0, none⟩), .int .i64 n] [DM b B (some t)] (Ret fun v G => v = .bool false ∧ G = [DM b B (some t)]) := m_stepN0 b B t n hn
theorem z_stepN1 (n : Int) (hn : 1 ≤ n) (ht : t ≤ B.length) (hl : B.length ≤ 4194304) (hlt : t + n < B.length) : Ctr Try.prog 16 [.pointer (some ⟨b, 0, none⟩), .int .i64 n] [DM b B (some t)] (Ret fun v G => v = .bool false ∧ G = [DM b B (some (t + n.toNat))]) := m_stepN1 b B t n hn ht hl hlt
theorem z_stepN2 (n : Int) (hn : 1 ≤ n) (ht : t ≤ B.length) (hl : B.length ≤ 4194304) (hge : B.length ≤ t + n) (hB : BitP.Byt B) : Ctr Try.prog 16 [.pointer (some ⟨b, 0, none⟩), .int .i64 n] [DM b B (some t)] (Ret fun v G => v = .bool true ∧ G = [DM b B none]) := m_stepN2 b B t n hn ht hl hge hB
theorem z_outN : Ctr Try.prog 17 [.pointer (some ⟨b, 0, none⟩)] [DM b B (some t)] (Ret fun v G => v = .slice none 0 0 ∧ G = [DM b B (some t)]) := m_outN b B t
theorem z_outD (hz : (DefP.shF B).length < 500000000) : Ctr Try.prog 17 [.pointer (some ⟨b, 0, none⟩)] [DM b B none] (Ret fun v G => ∃ q c, v = .slice q (DefP.shF B).length c ∧ G = [Row U5 q (DefP.shF B).length c (DefP.shF B), DM b B none]) := m_outD b _ hz
theorem z_new (p : Option Addr) (c : Nat) (R : HProp) (hR : ∀ w0 h, R w0 h → RdR U5 p B.length B w0 h) (hl : B.length ≤ 4194304) : Ctr Try.prog 14 [.slice p B.length c] [R] (Ret fun v G => ∃ b, v = .pointer (some ⟨b, 0, none⟩) ∧ G = [DM b B (some 0), R]) := m_new p c B R hR hl
end


attribute [local irreducible] DM

set_option maxHeartbeats 8000000 in
set_option maxRecDepth 100000 in
theorem l_slices (pb : Option Addr) (cb : Nat) (Ls : List (Td.Ty (.sl 5 (.int .u8)))) (pm : Option Addr) (cm : Nat) (M : List Int) (hM : BitP.Byt M) (hlim : ∀ y ∈ Ls, y.cap ≤ 140737488351232) (ps : Option Addr) (cs : Nat) (S : List Int) (hS : ∀ x ∈ S, -9223372036854775808 ≤ x ∧ x ≤ 9223372036854775807) (hSl : S.length ≤ 9223372036854775807) : Ctr Try.prog 4 [.agg #[.slice pb Ls.length cb, .slice pm M.length cm], .slice ps S.length cs] [Deep 23 (.sl 5 (.int .u8)) pb Ls.length Ls, RdR U5 pm M.length M, RdR I3 ps S.length S] (Ret fun v G => v = .bool true ∧ G = [Deep 23 (.sl 5 (.int .u8)) pb Ls.length Ls, RdR U5 pm M.length M, RdR I3 ps S.length S]) := by
  refine spec_of [(0, _), (1, _)] Try.func4 rfl Try.ntmps4 rfl rfl ?_
  intro w0 F
  refine rT TTDfO 2 rfl ?_
  refine o_box rfl (cs := [_, _]) rfl rfl ?_
  intro b2
  refine rO TTDfO 6 rfl ?_
  refine o_call (l_awake) V.b9  rfl .nil rfl ?_
  rintro _ _ ⟨rfl, rfl⟩
  refine rO TTDfO 8 rfl ?_
  refine o_val (v_loadAgg V.a25 rfl (by exact mm0) (vs := [_, _]) rfl rfl) rfl ?_
  refine o_call (l_make pb cb Ls pm cm M hM hlim) V.b10  rfl (.cons (by exact rr1) (.cons (by exact rr1) .nil)) rfl ?_
  rintro _ _ ⟨ok, q, c, out, rfl, hoB, hol, rfl⟩
  refine rO TTDfO 7 rfl ?_
  rcases (DefP.or4 ok (decide (out.length ≤ 9000)) (100 < S.length)) with rfl | ⟨rfl, hs⟩ | ⟨rfl, hs, hs2⟩ | ⟨rfl, hs, hs2⟩
  ·
    refine rC TTDfO 25 rfl ?_
    exact ret_ok (G := [Deep 23 (.sl 5 (.int .u8)) pb Ls.length Ls, RdR U5 pm M.length M, RdR I3 ps S.length S]) (res1 rfl) ⟨rfl, rfl⟩ (sub (.cons (by exact rr1) (.cons (by exact rr1) (.cons (by exact rr2) .nil))) (by exact dd2))
  ·
    refine rC TTDfO 8 rfl ?_
    refine o_want rfl ?_
    refine o_val (v_T (v_gtr rfl rfl) (by have := of_decide_eq_false hs; omega)) rfl ?_
    refine rO TTDfO 16 rfl ?_
    exact ret_ok (G := [Deep 23 (.sl 5 (.int .u8)) pb Ls.length Ls, RdR U5 pm M.length M, RdR I3 ps S.length S]) (res1 rfl) ⟨rfl, rfl⟩ (sub (.cons (by exact rr1) (.cons (by exact rr1) (.cons (by exact rr2) .nil))) (by exact dd2))
  ·
    refine rC TTDfO 8 rfl ?_
    refine o_want rfl ?_
    refine o_val (v_F (v_gtr rfl rfl) (by have := of_decide_eq_true hs; omega)) rfl ?_
    refine rO TTDfO 4 rfl ?_
    refine o_want rfl ?_
    refine o_val (v_T (v_gtr rfl rfl) (by omega)) rfl ?_
    refine rO TTDfO 11 rfl ?_
    exact ret_ok (G := [Deep 23 (.sl 5 (.int .u8)) pb Ls.length Ls, RdR U5 pm M.length M, RdR I3 ps S.length S]) (res1 rfl) ⟨rfl, rfl⟩ (sub (.cons (by exact rr1) (.cons (by exact rr1) (.cons (by exact rr2) .nil))) (by exact dd2))
  ·
    refine rC TTDfO 8 rfl ?_
    refine o_want rfl ?_
    refine o_val (v_F (v_gtr rfl rfl) (by have := of_decide_eq_true hs; omega)) rfl ?_
    refine rO TTDfO 4 rfl ?_
    refine o_want rfl ?_
    refine o_val (v_F (v_gtr rfl rfl) (by omega)) rfl ?_
    refine rO TTDfO 7 rfl ?_
    have hol2 : out.length ≤ 9000 := of_decide_eq_true hs
    refine rC TTDfO 2 rfl ?_
    refine o_call (z_new out q c (Row U5 q out.length c out) (fun _ _ hh => hh.rd) (by omega)) V.b14  rfl (.cons (by exact rr0) .nil) rfl ?_
    rintro _ _ ⟨bm, rfl, rfl⟩
    refine rO TTDfO 7 rfl ?_
    refine o_val (v_to (v := .bool false) (v_eqnil Try.underlying35 rfl rfl) rfl) rfl ?_
    refine rO TTDfO 19 rfl ?_
    refine w_loop3 (fun (i : Nat) (s : Option Nat) (lf : Nat) => [(1, .slice ps S.length cs), (5, .slice q out.length c), (7, .pointer (some ⟨bm, 0, none⟩)), (8, .int .i64 (lf : Int)), (9, .int .i64 (i : Int))]) (fun (i : Nat) (s : Option Nat) (lf : Nat) => DM bm out s :: Row U5 q out.length c out :: Deep 23 (.sl 5 (.int .u8)) pb Ls.length Ls :: RdR U5 pm M.length M :: RdR I3 ps S.length S :: F) (fun (i : Nat) (s : Option Nat) (lf : Nat) => i ≤ S.length ∧ (match s with | none => lf = 0 | some t => lf = out.length - t ∧ t ≤ out.length) ∧ lf ≤ out.length) (fun (i : Nat) (s : Option Nat) (lf : Nat) => S.length - i) (i3 (0) ((some 0)) (out.length) ?_ (.cons rfl (.cons rfl (.cons rfl (.cons rfl (.cons rfl (.nil _)))))) (sub (.cons (by exact rr0) (.cons (by exact rr0) (.cons (by exact rr0) (.cons (by exact rr0) (.cons (by exact rr1) .nil))))) (by exact dd1))) ?_
    ·
      exact ⟨Nat.zero_le _, ⟨rfl, Nat.zero_le _⟩, Nat.le_refl _⟩
    intro i s lf
    rintro ⟨hi, hlr, hlf0⟩
    refine rL TTDfO 9 rfl ?_
    refine w_condD rfl (fun h41 => ?_) (fun h41 => ?_)
    ·
      refine rC TTDfO 4 rfl ?_
      rcases (DefP.step5 s (I3.g S (i : Int)) out.length lf hlr) with ⟨rfl, rfl, hn⟩ | ⟨rfl, rfl, hn⟩ | ⟨t, rfl, ht, hlf, hn, hp⟩ | ⟨t, rfl, ht, hlf, hn, hp⟩ | ⟨t, rfl, ht, hlf, hn, hlt⟩ | ⟨t, rfl, ht, hlf, hn, hge⟩
      ·
        refine rC TTDfO 1 rfl ?_
        have hi2 : i < S.length := by omega
        have hnb : -9223372036854775808 ≤ (I3.g S (i : Int)) ∧ (I3.g S (i : Int)) ≤ 9223372036854775807 := hS _ (by rw [show (I3.g S (i : Int)) = S[i] from by simp [Ec.g, hi2]]; exact List.getElem_mem hi2)
        refine rC TTDfO 2 rfl ?_
        refine o_call (z_doneD bm out) V.b15  rfl (.cons (by exact rr0) .nil) rfl ?_
        rintro _ _ ⟨rfl, rfl⟩
        refine rO TTDfO 8 rfl ?_
        refine o_val (r_index (c := (I3)) V.sl34 rfl rfl (by exact rdH (fun _ _ h => h) mm4) (by omega) (by omega)) rfl ?_
        refine o_val (r_load (c := (I3)) V.s3 rfl (by exact rdH (fun _ _ h => h) mm4) (by omega) (by omega) rfl rfl) rfl ?_
        refine o_call (z_stepD bm out (I3.g S (i : Int))) V.b16  rfl (.cons (by exact rr0) .nil) rfl ?_
        rintro _ _ ⟨rfl, rfl⟩
        refine rO TTDfO 8 rfl ?_
        refine o_val (r_index (c := (I3)) V.sl34 rfl rfl (by exact rdH (fun _ _ h => h) mm4) (by omega) (by omega)) rfl ?_
        refine o_val (r_load (c := (I3)) V.s3 rfl (by exact rdH (fun _ _ h => h) mm4) (by omega) (by omega) rfl rfl) rfl ?_
        refine o_val (v_F (v_gtr rfl rfl) (by omega)) rfl ?_
        refine rO TTDfO 9 rfl ?_
        refine o_call (z_doneD bm out) V.b15  rfl (.cons (by exact rr0) .nil) rfl ?_
        rintro _ _ ⟨rfl, rfl⟩
        refine o_val (v_to (v := .bool false) (v_neb Try.underlying4 rfl rfl) rfl) rfl ?_
        refine rO TTDfO 20 rfl ?_
        refine o_want rfl ?_
        refine o_val (r_index (c := (I3)) V.sl34 rfl rfl (by exact rdH (fun _ _ h => h) mm4) (by omega) (by omega)) rfl ?_
        refine o_want rfl ?_
        refine o_val (r_load (c := (I3)) V.s3 rfl (by exact rdH (fun _ _ h => h) mm4) (by omega) (by omega) rfl rfl) rfl ?_
        refine o_want rfl ?_
        refine o_val (v_T (v_lss rfl rfl) (by omega)) rfl ?_
        refine rO TTDfO 3 rfl ?_
        refine o_want rfl ?_
        refine o_val (v_to (v := .bool false) (v_neb Try.underlying4 rfl rfl) rfl) rfl ?_
        refine rO TTDfO 4 rfl ?_
        refine o_want rfl ?_
        refine o_val (v_F (v_gtr rfl rfl) (by omega)) rfl ?_
        refine rO TTDfO 7 rfl ?_
        refine o_want rfl ?_
        refine o_val (r_index (c := (I3)) V.sl34 rfl rfl (by exact rdH (fun _ _ h => h) mm4) (by omega) (by omega)) rfl ?_
        refine o_want rfl ?_
        refine o_val (r_load (c := (I3)) V.s3 rfl (by exact rdH (fun _ _ h => h) mm4) (by omega) (by omega) rfl rfl) rfl ?_
        refine o_want rfl ?_
        refine o_val (v_F (v_gtr rfl rfl) (by omega)) rfl ?_
        refine rOs TTDfO 20 rfl (by omega) ?_
        exact j3 (i + 1) none 0 ⟨⟨by omega, rfl, Nat.zero_le _⟩, by omega⟩ (.cons rfl (.cons rfl (.cons rfl (.cons rfl (.cons rfl (.nil _)))))) (sub (.cons (by exact rr0) (.cons (by exact rr0) (.cons (by exact rr0) (.cons (by exact rr0) (.cons (by exact rr0) .nil))))) (by exact dd0))
      ·
        refine rC TTDfO 1 rfl ?_
        have hi2 : i < S.length := by omega
        have hnb : -9223372036854775808 ≤ (I3.g S (i : Int)) ∧ (I3.g S (i : Int)) ≤ 9223372036854775807 := hS _ (by rw [show (I3.g S (i : Int)) = S[i] from by simp [Ec.g, hi2]]; exact List.getElem_mem hi2)
        refine rC TTDfO 2 rfl ?_
        refine o_call (z_doneD bm out) V.b15  rfl (.cons (by exact rr0) .nil) rfl ?_
        rintro _ _ ⟨rfl, rfl⟩
        refine rO TTDfO 8 rfl ?_
        refine o_val (r_index (c := (I3)) V.sl34 rfl rfl (by exact rdH (fun _ _ h => h) mm4) (by omega) (by omega)) rfl ?_
        refine o_val (r_load (c := (I3)) V.s3 rfl (by exact rdH (fun _ _ h => h) mm4) (by omega) (by omega) rfl rfl) rfl ?_
        refine o_call (z_stepD bm out (I3.g S (i : Int))) V.b16  rfl (.cons (by exact rr0) .nil) rfl ?_
        rintro _ _ ⟨rfl, rfl⟩
        refine rO TTDfO 8 rfl ?_
        refine o_val (r_index (c := (I3)) V.sl34 rfl rfl (by exact rdH (fun _ _ h => h) mm4) (by omega) (by omega)) rfl ?_
        refine o_val (r_load (c := (I3)) V.s3 rfl (by exact rdH (fun _ _ h => h) mm4) (by omega) (by omega) rfl rfl) rfl ?_
        refine o_val (v_T (v_gtr rfl rfl) (by omega)) rfl ?_
        refine rO TTDfO 8 rfl ?_
        refine o_val (r_index (c := (I3)) V.sl34 rfl rfl (by exact rdH (fun _ _ h => h) mm4) (by omega) (by omega)) rfl ?_
        refine o_val (r_load (c := (I3)) V.s3 rfl (by exact rdH (fun _ _ h => h) mm4) (by omega) (by omega) rfl rfl) rfl ?_
        refine o_val (v_to (v := .int .i64 0) (v_min rfl rfl) (by split <;> first | rfl | (congr 1; omega))) rfl ?_
        refine o_val (v_to (v := .int .i64 0) (v_sub rfl rfl (wrapI (by omega) (by omega))) (by rfl)) rfl ?_
        refine o_val (v_to (v := .int .i64 0) (v_max rfl rfl) (by split <;> rfl)) rfl ?_
        refine rO TTDfO 7 rfl ?_
        refine o_call (z_doneD bm out) V.b15  rfl (.cons (by exact rr0) .nil) rfl ?_
        rintro _ _ ⟨rfl, rfl⟩
        refine o_val (v_to (v := .bool false) (v_neb Try.underlying4 rfl rfl) rfl) rfl ?_
        refine rO TTDfO 20 rfl ?_
        refine o_want rfl ?_
        refine o_val (r_index (c := (I3)) V.sl34 rfl rfl (by exact rdH (fun _ _ h => h) mm4) (by omega) (by omega)) rfl ?_
        refine o_want rfl ?_
        refine o_val (r_load (c := (I3)) V.s3 rfl (by exact rdH (fun _ _ h => h) mm4) (by omega) (by omega) rfl rfl) rfl ?_
        refine o_want rfl ?_
        refine o_val (v_F (v_lss rfl rfl) (by omega)) rfl ?_
        refine rO TTDfO 8 rfl ?_
        refine o_want rfl ?_
        refine o_val (v_F (v_gtr rfl rfl) (by omega)) rfl ?_
        refine rO TTDfO 7 rfl ?_
        refine o_want rfl ?_
        refine o_val (r_index (c := (I3)) V.sl34 rfl rfl (by exact rdH (fun _ _ h => h) mm4) (by omega) (by omega)) rfl ?_
        refine o_want rfl ?_
        refine o_val (r_load (c := (I3)) V.s3 rfl (by exact rdH (fun _ _ h => h) mm4) (by omega) (by omega) rfl rfl) rfl ?_
        refine o_want rfl ?_
        refine o_val (v_T (v_gtr rfl rfl) (by omega)) rfl ?_
        refine rO TTDfO 2 rfl ?_
        refine o_want rfl ?_
        refine o_val (v_T (v_eql rfl rfl) (by omega)) rfl ?_
        refine rOs TTDfO 17 rfl (by omega) ?_
        exact j3 (i + 1) none 0 ⟨⟨by omega, rfl, Nat.zero_le _⟩, by omega⟩ (.cons rfl (.cons rfl (.cons rfl (.cons rfl (.cons rfl (.nil _)))))) (sub (.cons (by exact rr0) (.cons (by exact rr0) (.cons (by exact rr0) (.cons (by exact rr0) (.cons (by exact rr0) .nil))))) (by exact dd0))
      ·
        refine rC TTDfO 1 rfl ?_
        have hi2 : i < S.length := by omega
        have hnb : -9223372036854775808 ≤ (I3.g S (i : Int)) ∧ (I3.g S (i : Int)) ≤ 9223372036854775807 := hS _ (by rw [show (I3.g S (i : Int)) = S[i] from by simp [Ec.g, hi2]]; exact List.getElem_mem hi2)
        refine rC TTDfO 2 rfl ?_
        refine o_call (z_doneN bm out t) V.b15  rfl (.cons (by exact rr0) .nil) rfl ?_
        rintro _ _ ⟨rfl, rfl⟩
        refine rO TTDfO 8 rfl ?_
        refine o_val (r_index (c := (I3)) V.sl34 rfl rfl (by exact rdH (fun _ _ h => h) mm4) (by omega) (by omega)) rfl ?_
        refine o_val (r_load (c := (I3)) V.s3 rfl (by exact rdH (fun _ _ h => h) mm4) (by omega) (by omega) rfl rfl) rfl ?_
        refine o_call (z_stepN0 bm out t (I3.g S (i : Int)) hn) V.b16  rfl (.cons (by exact rr0) .nil) rfl ?_
        rintro _ _ ⟨rfl, rfl⟩
        refine rO TTDfO 8 rfl ?_
        refine o_val (r_index (c := (I3)) V.sl34 rfl rfl (by exact rdH (fun _ _ h => h) mm4) (by omega) (by omega)) rfl ?_
        refine o_val (r_load (c := (I3)) V.s3 rfl (by exact rdH (fun _ _ h => h) mm4) (by omega) (by omega) rfl rfl) rfl ?_
        refine o_val (v_F (v_gtr rfl rfl) (by omega)) rfl ?_
        refine rO TTDfO 9 rfl ?_
        refine o_call (z_doneN bm out t) V.b15  rfl (.cons (by exact rr0) .nil) rfl ?_
        rintro _ _ ⟨rfl, rfl⟩
        refine o_val (v_to (v := .bool false) (v_neb Try.underlying4 rfl rfl) rfl) rfl ?_
        refine rO TTDfO 12 rfl ?_
        refine o_want rfl ?_
        refine o_call (z_outN bm out t) V.b17  rfl (.cons (by exact rr0) .nil) rfl ?_
        rintro _ _ ⟨rfl, rfl⟩
        refine o_want rfl ?_
        refine o_val (v_len (ty' := 0) Try.underlying23 rfl) rfl ?_
        refine o_want rfl ?_
        refine o_val (v_F (v_gtr rfl rfl) (by decide)) rfl ?_
        refine rO TTDfO 5 rfl ?_
        refine o_want rfl ?_
        refine o_val (r_index (c := (I3)) V.sl34 rfl rfl (by exact rdH (fun _ _ h => h) mm4) (by omega) (by omega)) rfl ?_
        refine o_want rfl ?_
        refine o_val (r_load (c := (I3)) V.s3 rfl (by exact rdH (fun _ _ h => h) mm4) (by omega) (by omega) rfl rfl) rfl ?_
        refine o_want rfl ?_
        refine o_val (v_T (v_lss rfl rfl) (by omega)) rfl ?_
        refine rO TTDfO 3 rfl ?_
        refine o_want rfl ?_
        refine o_val (v_to (v := .bool false) (v_neb Try.underlying4 rfl rfl) rfl) rfl ?_
        refine rO TTDfO 4 rfl ?_
        refine o_want rfl ?_
        refine o_val (v_T (v_gtr rfl rfl) (by omega)) rfl ?_
        refine rO TTDfO 7 rfl ?_
        refine o_want rfl ?_
        refine o_val (r_index (c := (I3)) V.sl34 rfl rfl (by exact rdH (fun _ _ h => h) mm4) (by omega) (by omega)) rfl ?_
        refine o_want rfl ?_
        refine o_val (r_load (c := (I3)) V.s3 rfl (by exact rdH (fun _ _ h => h) mm4) (by omega) (by omega) rfl rfl) rfl ?_
        refine o_want rfl ?_
        refine o_val (v_F (v_gtr rfl rfl) (by omega)) rfl ?_
        refine rOs TTDfO 20 rfl (by omega) ?_
        exact j3 (i + 1) (some t) lf ⟨⟨by omega, ⟨hlf, ht⟩, by omega⟩, by omega⟩ (.cons rfl (.cons rfl (.cons rfl (.cons rfl (.cons rfl (.nil _)))))) (sub (.cons (by exact rr0) (.cons (by exact rr0) (.cons (by exact rr0) (.cons (by exact rr0) (.cons (by exact rr0) .nil))))) (by exact dd0))
      ·
        refine rC TTDfO 1 rfl ?_
        have hi2 : i < S.length := by omega
        have hnb : -9223372036854775808 ≤ (I3.g S (i : Int)) ∧ (I3.g S (i : Int)) ≤ 9223372036854775807 := hS _ (by rw [show (I3.g S (i : Int)) = S[i] from by simp [Ec.g, hi2]]; exact List.getElem_mem hi2)
        refine rC TTDfO 2 rfl ?_
        refine o_call (z_doneN bm out t) V.b15  rfl (.cons (by exact rr0) .nil) rfl ?_
        rintro _ _ ⟨rfl, rfl⟩
        refine rO TTDfO 8 rfl ?_
        refine o_val (r_index (c := (I3)) V.sl34 rfl rfl (by exact rdH (fun _ _ h => h) mm4) (by omega) (by omega)) rfl ?_
        refine o_val (r_load (c := (I3)) V.s3 rfl (by exact rdH (fun _ _ h => h) mm4) (by omega) (by omega) rfl rfl) rfl ?_
        refine o_call (z_stepN0 bm out t (I3.g S (i : Int)) hn) V.b16  rfl (.cons (by exact rr0) .nil) rfl ?_
        rintro _ _ ⟨rfl, rfl⟩
        refine rO TTDfO 8 rfl ?_
        refine o_val (r_index (c := (I3)) V.sl34 rfl rfl (by exact rdH (fun _ _ h => h) mm4) (by omega) (by omega)) rfl ?_
        refine o_val (r_load (c := (I3)) V.s3 rfl (by exact rdH (fun _ _ h => h) mm4) (by omega) (by omega) rfl rfl) rfl ?_
        refine o_val (v_F (v_gtr rfl rfl) (by omega)) rfl ?_
        refine rO TTDfO 9 rfl ?_
        refine o_call (z_doneN bm out t) V.b15  rfl (.cons (by exact rr0) .nil) rfl ?_
        rintro _ _ ⟨rfl, rfl⟩
        refine o_val (v_to (v := .bool false) (v_neb Try.underlying4 rfl rfl) rfl) rfl ?_
        refine rO TTDfO 12 rfl ?_
        refine o_want rfl ?_
        refine o_call (z_outN bm out t) V.b17  rfl (.cons (by exact rr0) .nil) rfl ?_
        rintro _ _ ⟨rfl, rfl⟩
        refine o_want rfl ?_
        refine o_val (v_len (ty' := 0) Try.underlying23 rfl) rfl ?_
        refine o_want rfl ?_
        refine o_val (v_F (v_gtr rfl rfl) (by decide)) rfl ?_
        refine rO TTDfO 5 rfl ?_
        refine o_want rfl ?_
        refine o_val (r_index (c := (I3)) V.sl34 rfl rfl (by exact rdH (fun _ _ h => h) mm4) (by omega) (by omega)) rfl ?_
        refine o_want rfl ?_
        refine o_val (r_load (c := (I3)) V.s3 rfl (by exact rdH (fun _ _ h => h) mm4) (by omega) (by omega) rfl rfl) rfl ?_
        refine o_want rfl ?_
        refine o_val (v_T (v_lss rfl rfl) (by omega)) rfl ?_
        refine rO TTDfO 3 rfl ?_
        refine o_want rfl ?_
        refine o_val (v_to (v := .bool false) (v_neb Try.underlying4 rfl rfl) rfl) rfl ?_
        refine rO TTDfO 4 rfl ?_
        refine o_want rfl ?_
        refine o_val (v_F (v_gtr rfl rfl) (by omega)) rfl ?_
        refine rO TTDfO 7 rfl ?_
        refine o_want rfl ?_
        refine o_val (r_index (c := (I3)) V.sl34 rfl rfl (by exact rdH (fun _ _ h => h) mm4) (by omega) (by omega)) rfl ?_
        refine o_want rfl ?_
        refine o_val (r_load (c := (I3)) V.s3 rfl (by exact rdH (fun _ _ h => h) mm4) (by omega) (by omega) rfl rfl) rfl ?_
        refine o_want rfl ?_
        refine o_val (v_F (v_gtr rfl rfl) (by omega)) rfl ?_
        refine rOs TTDfO 20 rfl (by omega) ?_
        exact j3 (i + 1) (some t) lf ⟨⟨by omega, ⟨hlf, ht⟩, by omega⟩, by omega⟩ (.cons rfl (.cons rfl (.cons rfl (.cons rfl (.cons rfl (.nil _)))))) (sub (.cons (by exact rr0) (.cons (by exact rr0) (.cons (by exact rr0) (.cons (by exact rr0) (.cons (by exact rr0) .nil))))) (by exact dd0))
      ·
        refine rC TTDfO 1 rfl ?_
        have hi2 : i < S.length := by omega
        have hnb : -9223372036854775808 ≤ (I3.g S (i : Int)) ∧ (I3.g S (i : Int)) ≤ 9223372036854775807 := hS _ (by rw [show (I3.g S (i : Int)) = S[i] from by simp [Ec.g, hi2]]; exact List.getElem_mem hi2)
        refine rC TTDfO 2 rfl ?_
        refine o_call (z_doneN bm out t) V.b15  rfl (.cons (by exact rr0) .nil) rfl ?_
        rintro _ _ ⟨rfl, rfl⟩
        refine rO TTDfO 8 rfl ?_
        refine o_val (r_index (c := (I3)) V.sl34 rfl rfl (by exact rdH (fun _ _ h => h) mm4) (by omega) (by omega)) rfl ?_
        refine o_val (r_load (c := (I3)) V.s3 rfl (by exact rdH (fun _ _ h => h) mm4) (by omega) (by omega) rfl rfl) rfl ?_
        refine o_call (z_stepN1 bm out t (I3.g S (i : Int)) hn ht (by omega) hlt) V.b16  rfl (.cons (by exact rr0) .nil) rfl ?_
        rintro _ _ ⟨rfl, rfl⟩
        refine rO TTDfO 8 rfl ?_
        refine o_val (r_index (c := (I3)) V.sl34 rfl rfl (by exact rdH (fun _ _ h => h) mm4) (by omega) (by omega)) rfl ?_
        refine o_val (r_load (c := (I3)) V.s3 rfl (by exact rdH (fun _ _ h => h) mm4) (by omega) (by omega) rfl rfl) rfl ?_
        refine o_val (v_T (v_gtr rfl rfl) (by omega)) rfl ?_
        refine rO TTDfO 8 rfl ?_
        refine o_val (r_index (c := (I3)) V.sl34 rfl rfl (by exact rdH (fun _ _ h => h) mm4) (by omega) (by omega)) rfl ?_
        refine o_val (r_load (c := (I3)) V.s3 rfl (by exact rdH (fun _ _ h => h) mm4) (by omega) (by omega) rfl rfl) rfl ?_
        refine o_val (v_to (v := .int .i64 (I3.g S (i : Int))) (v_min rfl rfl) (by rw [if_pos (by omega)])) rfl ?_
        refine o_val (v_to (v := .int .i64 ((lf - (I3.g S (i : Int)).toNat : Nat) : Int)) (v_sub rfl rfl (wrapI (by omega) (by omega))) (by (congr 1; omega))) rfl ?_
        refine o_val (v_to (v := .int .i64 ((lf - (I3.g S (i : Int)).toNat : Nat) : Int)) (v_max rfl rfl) (by split <;> first | rfl | (congr 1; omega))) rfl ?_
        refine rO TTDfO 7 rfl ?_
        refine o_call (z_doneN bm out (t + (I3.g S (i : Int)).toNat)) V.b15  rfl (.cons (by exact rr0) .nil) rfl ?_
        rintro _ _ ⟨rfl, rfl⟩
        refine o_val (v_to (v := .bool false) (v_neb Try.underlying4 rfl rfl) rfl) rfl ?_
        refine rO TTDfO 12 rfl ?_
        refine o_want rfl ?_
        refine o_call (z_outN bm out (t + (I3.g S (i : Int)).toNat)) V.b17  rfl (.cons (by exact rr0) .nil) rfl ?_
        rintro _ _ ⟨rfl, rfl⟩
        refine o_want rfl ?_
        refine o_val (v_len (ty' := 0) Try.underlying23 rfl) rfl ?_
        refine o_want rfl ?_
        refine o_val (v_F (v_gtr rfl rfl) (by decide)) rfl ?_
        refine rO TTDfO 5 rfl ?_
        refine o_want rfl ?_
        refine o_val (r_index (c := (I3)) V.sl34 rfl rfl (by exact rdH (fun _ _ h => h) mm4) (by omega) (by omega)) rfl ?_
        refine o_want rfl ?_
        refine o_val (r_load (c := (I3)) V.s3 rfl (by exact rdH (fun _ _ h => h) mm4) (by omega) (by omega) rfl rfl) rfl ?_
        refine o_want rfl ?_
        refine o_val (v_F (v_lss rfl rfl) (by omega)) rfl ?_
        refine rO TTDfO 8 rfl ?_
        refine o_want rfl ?_
        refine o_val (v_T (v_gtr rfl rfl) (by omega)) rfl ?_
        refine rO TTDfO 7 rfl ?_
        refine o_want rfl ?_
        refine o_val (r_index (c := (I3)) V.sl34 rfl rfl (by exact rdH (fun _ _ h => h) mm4) (by omega) (by omega)) rfl ?_
        refine o_want rfl ?_
        refine o_val (r_load (c := (I3)) V.s3 rfl (by exact rdH (fun _ _ h => h) mm4) (by omega) (by omega) rfl rfl) rfl ?_
        refine o_want rfl ?_
        refine o_val (v_T (v_gtr rfl rfl) (by omega)) rfl ?_
        refine rO TTDfO 2 rfl ?_
        refine o_want rfl ?_
        refine o_val (v_F (v_eql rfl rfl) (by omega)) rfl ?_
        refine rOs TTDfO 17 rfl (by omega) ?_
        exact j3 (i + 1) (some (t + (I3.g S (i : Int)).toNat)) (lf - (I3.g S (i : Int)).toNat) ⟨⟨by omega, ⟨by omega, by omega⟩, by omega⟩, by omega⟩ (.cons rfl (.cons rfl (.cons rfl (.cons rfl (.cons rfl (.nil _)))))) (sub (.cons (by exact rr0) (.cons (by exact rr0) (.cons (by exact rr0) (.cons (by exact rr0) (.cons (by exact rr0) .nil))))) (by exact dd0))
      ·
        refine rC TTDfO 1 rfl ?_
        have hi2 : i < S.length := by omega
        have hnb : -9223372036854775808 ≤ (I3.g S (i : Int)) ∧ (I3.g S (i : Int)) ≤ 9223372036854775807 := hS _ (by rw [show (I3.g S (i : Int)) = S[i] from by simp [Ec.g, hi2]]; exact List.getElem_mem hi2)
        refine rC TTDfO 2 rfl ?_
        refine o_call (z_doneN bm out t) V.b15  rfl (.cons (by exact rr0) .nil) rfl ?_
        rintro _ _ ⟨rfl, rfl⟩
        refine rO TTDfO 8 rfl ?_
        refine o_val (r_index (c := (I3)) V.sl34 rfl rfl (by exact rdH (fun _ _ h => h) mm4) (by omega) (by omega)) rfl ?_
        refine o_val (r_load (c := (I3)) V.s3 rfl (by exact rdH (fun _ _ h => h) mm4) (by omega) (by omega) rfl rfl) rfl ?_
        refine o_call (z_stepN2 bm out t (I3.g S (i : Int)) hn ht (by omega) hge hoB) V.b16  rfl (.cons (by exact rr0) .nil) rfl ?_
        rintro _ _ ⟨rfl, rfl⟩
        refine rO TTDfO 8 rfl ?_
        refine o_val (r_index (c := (I3)) V.sl34 rfl rfl (by exact rdH (fun _ _ h => h) mm4) (by omega) (by omega)) rfl ?_
        refine o_val (r_load (c := (I3)) V.s3 rfl (by exact rdH (fun _ _ h => h) mm4) (by omega) (by omega) rfl rfl) rfl ?_
        refine o_val (v_T (v_gtr rfl rfl) (by omega)) rfl ?_
        refine rO TTDfO 8 rfl ?_
        refine o_val (r_index (c := (I3)) V.sl34 rfl rfl (by exact rdH (fun _ _ h => h) mm4) (by omega) (by omega)) rfl ?_
        refine o_val (r_load (c := (I3)) V.s3 rfl (by exact rdH (fun _ _ h => h) mm4) (by omega) (by omega) rfl rfl) rfl ?_
        refine o_val (v_to (v := .int .i64 (lf : Int)) (v_min rfl rfl) (by split <;> first | rfl | (congr 1; omega))) rfl ?_
        refine o_val (v_to (v := .int .i64 0) (v_sub rfl rfl (wrapI (by omega) (by omega))) (by (congr 1; omega))) rfl ?_
        refine o_val (v_to (v := .int .i64 0) (v_max rfl rfl) (by split <;> rfl)) rfl ?_
        refine rO TTDfO 7 rfl ?_
        refine o_call (z_doneD bm out) V.b15  rfl (.cons (by exact rr0) .nil) rfl ?_
        rintro _ _ ⟨rfl, rfl⟩
        refine o_val (v_to (v := .bool false) (v_neb Try.underlying4 rfl rfl) rfl) rfl ?_
        refine rO TTDfO 20 rfl ?_
        refine o_want rfl ?_
        refine o_val (r_index (c := (I3)) V.sl34 rfl rfl (by exact rdH (fun _ _ h => h) mm4) (by omega) (by omega)) rfl ?_
        refine o_want rfl ?_
        refine o_val (r_load (c := (I3)) V.s3 rfl (by exact rdH (fun _ _ h => h) mm4) (by omega) (by omega) rfl rfl) rfl ?_
        refine o_want rfl ?_
        refine o_val (v_F (v_lss rfl rfl) (by omega)) rfl ?_
        refine rO TTDfO 8 rfl ?_
        refine o_want rfl ?_
        refine o_val (v_F (v_gtr rfl rfl) (by omega)) rfl ?_
        refine rO TTDfO 7 rfl ?_
        refine o_want rfl ?_
        refine o_val (r_index (c := (I3)) V.sl34 rfl rfl (by exact rdH (fun _ _ h => h) mm4) (by omega) (by omega)) rfl ?_
        refine o_want rfl ?_
        refine o_val (r_load (c := (I3)) V.s3 rfl (by exact rdH (fun _ _ h => h) mm4) (by omega) (by omega) rfl rfl) rfl ?_
        refine o_want rfl ?_
        refine o_val (v_T (v_gtr rfl rfl) (by omega)) rfl ?_
        refine rO TTDfO 2 rfl ?_
        refine o_want rfl ?_
        refine o_val (v_T (v_eql rfl rfl) (by omega)) rfl ?_
        refine rOs TTDfO 17 rfl (by omega) ?_
        exact j3 (i + 1) none 0 ⟨⟨by omega, rfl, Nat.zero_le _⟩, by omega⟩ (.cons rfl (.cons rfl (.cons rfl (.cons rfl (.cons rfl (.nil _)))))) (sub (.cons (by exact rr0) (.cons (by exact rr0) (.cons (by exact rr0) (.cons (by exact rr0) (.cons (by exact rr0) .nil))))) (by exact dd0))
    ·
      refine rC TTDfO 12 rfl ?_
      refine w_loop2 (fun (k : Nat) (s : Option Nat) => [(5, .slice q out.length c), (7, .pointer (some ⟨bm, 0, none⟩)), (12, .int .i64 (k : Int))]) (fun (k : Nat) (s : Option Nat) => DM bm out s :: Row U5 q out.length c out :: Deep 23 (.sl 5 (.int .u8)) pb Ls.length Ls :: RdR U5 pm M.length M :: RdR I3 ps S.length S :: F) (fun (k : Nat) (s : Option Nat) => k ≤ 10000 ∧ (∀ t, s = some t → k ≤ t ∧ t ≤ out.length)) (fun (k : Nat) (s : Option Nat) => 10000 - k) (i2 (0) (s) ?_ (.cons rfl (.cons rfl (.cons rfl (.nil _)))) (sub (.cons (by exact rr0) (.cons (by exact rr0) (.cons (by exact rr0) (.cons (by exact rr0) (.cons (by exact rr0) .nil))))) (by exact dd0))) ?_
      ·
        exact ⟨Nat.zero_le _, fun t e => by subst e; exact ⟨Nat.zero_le _, hlr.2⟩⟩
      intro k s
      rintro ⟨hk2, hst⟩
      rcases (DefP.run4 s k out.length hk2 hst (by omega)) with ⟨rfl, hk9⟩ | ⟨t, rfl, hkt, ht, hk9, hlt⟩ | ⟨t, rfl, hkt, ht, hk9, hge⟩ | ⟨rfl, rfl⟩
      ·
        refine rL TTDfO 4 rfl ?_
        refine o_val (v_T (v_lss rfl rfl) (by omega)) rfl ?_
        refine rO TTDfO 2 rfl ?_
        refine o_want rfl ?_
        refine o_call (z_doneD bm out) V.b15  rfl (.cons (by exact rr0) .nil) rfl ?_
        rintro _ _ ⟨rfl, rfl⟩
        refine rO TTDfO 11 rfl ?_
        have hg := DefP.gd hoB (by omega)
        have hzb := hg.zb
        refine w_net [⟨[], [], [7], 0, 0⟩, ⟨[0], [0], [], 0, 0⟩, ⟨[0, 1], [1], [], 0, 0⟩, ⟨[0, 1, 2], [2], [7], 0, 0⟩, ⟨[0, 1, 2, 3], [3, 2], [], 0, 0⟩, ⟨[0, 1, 2, 3, 4], [4, 2], [], 0, 0⟩, ⟨[0, 1, 2], [2], [5], 0, 0⟩, ⟨[0, 1, 2, 3, 4, 6], [6, 2], [], 0, 0⟩, ⟨[0, 1, 2, 3, 4, 6, 7], [7, 2], [], 0, 0⟩, ⟨[0, 1, 2, 3, 4, 5, 6, 7, 8], [5, 8, 2], [], 0, 0⟩, ⟨[0, 1, 2, 3, 4, 5, 6, 7, 8, 9], [2, 9], [], 0, 0⟩, ⟨[0, 1, 2, 3, 4, 5, 6, 7, 8, 9, 10], [10], [], 0, 0⟩] [⟨fun y => DM bm out none, none, some 4, [1]⟩, ⟨fun y => Row U5 q out.length c out, none, some 7, []⟩, ⟨fun y => Deep 23 (.sl 5 (.int .u8)) pb Ls.length Ls, none, none, []⟩, ⟨fun y => RdR U5 pm M.length M, none, none, []⟩, ⟨fun y => RdR I3 ps S.length S, none, none, []⟩, ⟨fun y => Row U5 (slP (y 4)) (DefP.shF out).length (slC (y 4)) (DefP.shF out), some 4, none, [5]⟩, ⟨fun y => DM bm out none, some 4, none, []⟩, ⟨fun y => Row U5 (slP (y 7)) (DefP.shF out).length (slC (y 7)) (DefP.shF out), some 7, none, [8]⟩, ⟨fun y => Row U5 q out.length c out, some 7, none, []⟩] F V.mixed (by kernel_rfl) rfl (fun _ => .refl _) (locT_0 _ (locT_0 _ (locT_0 _ (locT_0 _ (locT_0 _ (locT_1 [0, 1, 2, 3] rfl (by intro y y2 h; simp only [h 4 (.inl rfl)]) (locT_1 [0, 1, 2, 3] rfl (by intro y y2 h; rfl) (locT_1 [0, 1, 2, 3, 4, 6] rfl (by intro y y2 h; simp only [h 7 (.inl rfl)]) (locT_1 [0, 1, 2, 3, 4, 6] rfl (by intro y y2 h; rfl) locT_nil))))))))) ?_
        refine net_pure (fun y => [(7, _)]) (fun y => rfl) rfl rfl rfl (fun y hA L => st_v (v_move rfl) ⟨rfl, rfl⟩) (by intros; rfl) (by intro y y2 h; rfl) ?_
        refine net_eff (fun y => []) (fun y => [DM bm out none]) (fun y => []) (fun y => [(135, _)]) (fun y => rfl) (fun y => rfl) (fun y => rfl) (fun y => rfl) (fun y FF hA => st_callN (Post := [DM bm out none]) (z_doneD bm out) V.b15 rfl (.cons (by exact rr0) .nil) (fun v G h => by rcases h with ⟨rfl, rfl⟩; exact ⟨rfl, .refl _⟩)) (by intros; rfl) (by intros; rfl) (by intro y y2 h; rfl) ?_
        refine net_pure (fun y => [(136, _)]) (fun y => rfl) rfl rfl rfl (fun y hA L => st_v (v_move rfl) ⟨rfl, rfl⟩) (by intros; rfl) (by intro y y2 h; rfl) ?_
        refine net_pure (fun y => [(137, _), (7, _)]) (fun y => rfl) rfl rfl rfl (fun y hA L => st_want rfl (st_v (v_move rfl) ⟨rfl, rfl⟩)) (by intros; rfl) (by intro y y2 h; rfl) ?_
        refine net_new (fun y v => .slice (slP v) (DefP.shF out).length (slC v)) (fun y v => True) (fun y => [DM bm out none]) (fun y => []) (fun y v => [Row U5 (slP v) (DefP.shF out).length (slC v) (DefP.shF out), DM bm out none]) (fun y => [(138, _), (137, _)]) (fun y => rfl) (fun y => rfl) (fun y => rfl) (fun y => rfl) (fun y FF hA => st_want rfl (st_callSl (z_outD bm out (by omega)) V.b17 rfl (.cons (by exact rr0) .nil))) (by intros; rfl) (by intros; rfl) (by intros; rfl) (by intro y y2 h; simp only [h 4 (.inl rfl)]) (by intro y y2 h; rfl) ?_
        refine net_read (fun y => [Row U5 (slP (y 4)) (DefP.shF out).length (slC (y 4)) (DefP.shF out)]) (fun y => [(139, _), (137, _)]) (fun y => rfl) rfl (fun y => rfl) rfl (fun y FF hA => st_want rfl (st_v (v_str (T := 5) Try.underlying23 Try.underlying5 Try.underlying9 rfl (by exact own mm0)) ⟨rfl, rfl⟩)) (by intros; rfl) (by intro y y2 h; rfl) ?_
        refine net_pure (fun y => [(137, _), (5, _)]) (fun y => rfl) rfl rfl rfl (fun y hA L => st_want rfl (st_v (v_move rfl) ⟨rfl, rfl⟩)) (by intros; rfl) (by intro y y2 h; rfl) ?_
        refine net_new (fun y v => .slice (slP v) (DefP.shF out).length (slC v)) (fun y v => True) (fun y => [Row U5 q out.length c out]) (fun y => []) (fun y v => [Row U5 (slP v) (DefP.shF out).length (slC v) (DefP.shF out), Row U5 q out.length c out]) (fun y => [(141, _), (137, _)]) (fun y => rfl) (fun y => rfl) (fun y => rfl) (fun y => rfl) (fun y FF hA => st_want rfl (st_callSl (m_all q c out (Row U5 q out.length c out) (fun _ _ hh => hh.rd) (by omega) hoB) V.b11 rfl (.cons (by exact rr0) .nil))) (by intros; rfl) (by intros; rfl) (by intros; rfl) (by intro y y2 h; simp only [h 7 (.inl rfl)]) (by intro y y2 h; rfl) ?_
        refine net_read (fun y => [Row U5 (slP (y 7)) (DefP.shF out).length (slC (y 7)) (DefP.shF out)]) (fun y => [(142, _), (137, _)]) (fun y => rfl) rfl (fun y => rfl) rfl (fun y FF hA => st_want rfl (st_v (v_str (T := 5) Try.underlying23 Try.underlying5 Try.underlying9 rfl (by exact own mm0)) ⟨rfl, rfl⟩)) (by intros; rfl) (by intro y y2 h; rfl) ?_
        refine net_pure (fun y => [(140, _), (143, _), (137, _)]) (fun y => rfl) rfl rfl rfl (fun y hA L => st_want rfl (st_v (v_sself rfl rfl) ⟨rfl, rfl⟩)) (by intros; rfl) (by intro y y2 h; rfl) ?_
        refine net_pure (fun y => [(137, _), (144, _)]) (fun y => rfl) rfl rfl rfl (fun y hA L => st_v (v_pickT rfl rfl) ⟨rfl, rfl⟩) (by intros; rfl) (by intro y y2 h; rfl) ?_
        refine net_pure (fun y => [(145, _)]) (fun y => rfl) rfl rfl rfl (fun y hA L => st_v (v_assign rfl) ⟨rfl, rfl⟩) (by intros; rfl) (by intro y y2 h; rfl) ?_
        refine net_nil ?_
        intro y hA
        clear hA
        refine thn_n ?_
        refine w_keep _ (.cons (d := 4) rfl (.nil _)) ?_
        refine w_sub (M := Deep 23 (.sl 5 (.int .u8)) pb Ls.length Ls :: RdR U5 pm M.length M :: RdR I3 ps S.length S :: Row U5 (slP (y 4)) (DefP.shF out).length (slC (y 4)) (DefP.shF out) :: DM bm out none :: Row U5 (slP (y 7)) (DefP.shF out).length (slC (y 7)) (DefP.shF out) :: Row U5 q out.length c out :: F) (fun _ _ h => h) ?_
        refine w_sub (sub .nil (.keep (.keep (.keep (.skip (.keep (.skip (.skip .refl)))))))) ?_
        simp only [List.nil_append]
        generalize (slP (y 4)) = q139
        generalize (slP (y 7)) = q142
        refine rC TTDfO 1 rfl ?_
        exact ret_ok (G := [Deep 23 (.sl 5 (.int .u8)) pb Ls.length Ls, RdR U5 pm M.length M, RdR I3 ps S.length S]) (res1 rfl) ⟨rfl, rfl⟩ (sub (.cons (by exact rr0) (.cons (by exact rr0) (.cons (by exact rr0) .nil))) (by exact dd1))
      ·
        refine rL TTDfO 4 rfl ?_
        refine o_val (v_T (v_lss rfl rfl) (by omega)) rfl ?_
        refine rO TTDfO 2 rfl ?_
        refine o_want rfl ?_
        refine o_call (z_doneN bm out t) V.b15  rfl (.cons (by exact rr0) .nil) rfl ?_
        rintro _ _ ⟨rfl, rfl⟩
        refine rO TTDfO 12 rfl ?_
        refine o_val (v_rem (r := (k : Int) % 50) rfl rfl (by decide) (remI (by omega))) rfl ?_
        refine rOs TTDfO 1 rfl (by omega) ?_
        refine o_call (z_stepN1 bm out t (1 + (k : Int) % 50) (by omega) ht (by omega) hlt) V.b16  rfl (.cons (by exact rr0) .nil) rfl ?_
        rintro _ _ ⟨rfl, rfl⟩
        refine rOs TTDfO 8 rfl (by omega) ?_
        exact j2 (k + 1) (some (t + (1 + (k : Int) % 50).toNat)) ⟨⟨by omega, fun t2 e => by cases e; exact ⟨by omega, by omega⟩⟩, by omega⟩ (.cons rfl (.cons rfl (.cons rfl (.nil _)))) (sub (.cons (by exact rr0) (.cons (by exact rr0) (.cons (by exact rr0) (.cons (by exact rr0) (.cons (by exact rr0) .nil))))) (by exact dd0))
      ·
        refine rL TTDfO 4 rfl ?_
        refine o_val (v_T (v_lss rfl rfl) (by omega)) rfl ?_
        refine rO TTDfO 2 rfl ?_
        refine o_want rfl ?_
        refine o_call (z_doneN bm out t) V.b15  rfl (.cons (by exact rr0) .nil) rfl ?_
        rintro _ _ ⟨rfl, rfl⟩
        refine rO TTDfO 12 rfl ?_
        refine o_val (v_rem (r := (k : Int) % 50) rfl rfl (by decide) (remI (by omega))) rfl ?_
        refine rOs TTDfO 1 rfl (by omega) ?_
        refine o_call (z_stepN2 bm out t (1 + (k : Int) % 50) (by omega) ht (by omega) hge hoB) V.b16  rfl (.cons (by exact rr0) .nil) rfl ?_
        rintro _ _ ⟨rfl, rfl⟩
        refine rOs TTDfO 8 rfl (by omega) ?_
        exact j2 (k + 1) none ⟨⟨by omega, fun t e => by cases e⟩, by omega⟩ (.cons rfl (.cons rfl (.cons rfl (.nil _)))) (sub (.cons (by exact rr0) (.cons (by exact rr0) (.cons (by exact rr0) (.cons (by exact rr0) (.cons (by exact rr0) .nil))))) (by exact dd0))
      ·
        refine rL TTDfO 4 rfl ?_
        refine o_val (v_F (v_lss rfl rfl) (by omega)) rfl ?_
        refine rO TTDfO 14 rfl ?_
        have hg := DefP.gd hoB (by omega)
        have hzb := hg.zb
        refine w_net [⟨[], [], [7], 0, 0⟩, ⟨[0], [0], [], 0, 0⟩, ⟨[0, 1], [1], [], 0, 0⟩, ⟨[0, 1, 2], [2], [7], 0, 0⟩, ⟨[0, 1, 2, 3], [3, 2], [], 0, 0⟩, ⟨[0, 1, 2, 3, 4], [4, 2], [], 0, 0⟩, ⟨[0, 1, 2], [2], [5], 0, 0⟩, ⟨[0, 1, 2, 3, 4, 6], [6, 2], [], 0, 0⟩, ⟨[0, 1, 2, 3, 4, 6, 7], [7, 2], [], 0, 0⟩, ⟨[0, 1, 2, 3, 4, 5, 6, 7, 8], [5, 8, 2], [], 0, 0⟩, ⟨[0, 1, 2, 3, 4, 5, 6, 7, 8, 9], [2, 9], [], 0, 0⟩, ⟨[0, 1, 2, 3, 4, 5, 6, 7, 8, 9, 10], [10], [], 0, 0⟩] [⟨fun y => DM bm out none, none, some 4, [1]⟩, ⟨fun y => Row U5 q out.length c out, none, some 7, []⟩, ⟨fun y => Deep 23 (.sl 5 (.int .u8)) pb Ls.length Ls, none, none, []⟩, ⟨fun y => RdR U5 pm M.length M, none, none, []⟩, ⟨fun y => RdR I3 ps S.length S, none, none, []⟩, ⟨fun y => Row U5 (slP (y 4)) (DefP.shF out).length (slC (y 4)) (DefP.shF out), some 4, none, [5]⟩, ⟨fun y => DM bm out none, some 4, none, []⟩, ⟨fun y => Row U5 (slP (y 7)) (DefP.shF out).length (slC (y 7)) (DefP.shF out), some 7, none, [8]⟩, ⟨fun y => Row U5 q out.length c out, some 7, none, []⟩] F V.mixed (by kernel_rfl) rfl (fun _ => .refl _) (locT_0 _ (locT_0 _ (locT_0 _ (locT_0 _ (locT_0 _ (locT_1 [0, 1, 2, 3] rfl (by intro y y2 h; simp only [h 4 (.inl rfl)]) (locT_1 [0, 1, 2, 3] rfl (by intro y y2 h; rfl) (locT_1 [0, 1, 2, 3, 4, 6] rfl (by intro y y2 h; simp only [h 7 (.inl rfl)]) (locT_1 [0, 1, 2, 3, 4, 6] rfl (by intro y y2 h; rfl) locT_nil))))))))) ?_
        refine net_pure (fun y => [(7, _)]) (fun y => rfl) rfl rfl rfl (fun y hA L => st_v (v_move rfl) ⟨rfl, rfl⟩) (by intros; rfl) (by intro y y2 h; rfl) ?_
        refine net_eff (fun y => []) (fun y => [DM bm out none]) (fun y => []) (fun y => [(135, _)]) (fun y => rfl) (fun y => rfl) (fun y => rfl) (fun y => rfl) (fun y FF hA => st_callN (Post := [DM bm out none]) (z_doneD bm out) V.b15 rfl (.cons (by exact rr0) .nil) (fun v G h => by rcases h with ⟨rfl, rfl⟩; exact ⟨rfl, .refl _⟩)) (by intros; rfl) (by intros; rfl) (by intro y y2 h; rfl) ?_
        refine net_pure (fun y => [(136, _)]) (fun y => rfl) rfl rfl rfl (fun y hA L => st_v (v_move rfl) ⟨rfl, rfl⟩) (by intros; rfl) (by intro y y2 h; rfl) ?_
        refine net_pure (fun y => [(137, _), (7, _)]) (fun y => rfl) rfl rfl rfl (fun y hA L => st_want rfl (st_v (v_move rfl) ⟨rfl, rfl⟩)) (by intros; rfl) (by intro y y2 h; rfl) ?_
        refine net_new (fun y v => .slice (slP v) (DefP.shF out).length (slC v)) (fun y v => True) (fun y => [DM bm out none]) (fun y => []) (fun y v => [Row U5 (slP v) (DefP.shF out).length (slC v) (DefP.shF out), DM bm out none]) (fun y => [(138, _), (137, _)]) (fun y => rfl) (fun y => rfl) (fun y => rfl) (fun y => rfl) (fun y FF hA => st_want rfl (st_callSl (z_outD bm out (by omega)) V.b17 rfl (.cons (by exact rr0) .nil))) (by intros; rfl) (by intros; rfl) (by intros; rfl) (by intro y y2 h; simp only [h 4 (.inl rfl)]) (by intro y y2 h; rfl) ?_
        refine net_read (fun y => [Row U5 (slP (y 4)) (DefP.shF out).length (slC (y 4)) (DefP.shF out)]) (fun y => [(139, _), (137, _)]) (fun y => rfl) rfl (fun y => rfl) rfl (fun y FF hA => st_want rfl (st_v (v_str (T := 5) Try.underlying23 Try.underlying5 Try.underlying9 rfl (by exact own mm0)) ⟨rfl, rfl⟩)) (by intros; rfl) (by intro y y2 h; rfl) ?_
        refine net_pure (fun y => [(137, _), (5, _)]) (fun y => rfl) rfl rfl rfl (fun y hA L => st_want rfl (st_v (v_move rfl) ⟨rfl, rfl⟩)) (by intros; rfl) (by intro y y2 h; rfl) ?_
        refine net_new (fun y v => .slice (slP v) (DefP.shF out).length (slC v)) (fun y v => True) (fun y => [Row U5 q out.length c out]) (fun y => []) (fun y v => [Row U5 (slP v) (DefP.shF out).length (slC v) (DefP.shF out), Row U5 q out.length c out]) (fun y => [(141, _), (137, _)]) (fun y => rfl) (fun y => rfl) (fun y => rfl) (fun y => rfl) (fun y FF hA => st_want rfl (st_callSl (m_all q c out (Row U5 q out.length c out) (fun _ _ hh => hh.rd) (by omega) hoB) V.b11 rfl (.cons (by exact rr0) .nil))) (by intros; rfl) (by intros; rfl) (by intros; rfl) (by intro y y2 h; simp only [h 7 (.inl rfl)]) (by intro y y2 h; rfl) ?_
        refine net_read (fun y => [Row U5 (slP (y 7)) (DefP.shF out).length (slC (y 7)) (DefP.shF out)]) (fun y => [(142, _), (137, _)]) (fun y => rfl) rfl (fun y => rfl) rfl (fun y FF hA => st_want rfl (st_v (v_str (T := 5) Try.underlying23 Try.underlying5 Try.underlying9 rfl (by exact own mm0)) ⟨rfl, rfl⟩)) (by intros; rfl) (by intro y y2 h; rfl) ?_
        refine net_pure (fun y => [(140, _), (143, _), (137, _)]) (fun y => rfl) rfl rfl rfl (fun y hA L => st_want rfl (st_v (v_sself rfl rfl) ⟨rfl, rfl⟩)) (by intros; rfl) (by intro y y2 h; rfl) ?_
        refine net_pure (fun y => [(137, _), (144, _)]) (fun y => rfl) rfl rfl rfl (fun y hA L => st_v (v_pickT rfl rfl) ⟨rfl, rfl⟩) (by intros; rfl) (by intro y y2 h; rfl) ?_
        refine net_pure (fun y => [(145, _)]) (fun y => rfl) rfl rfl rfl (fun y hA L => st_v (v_assign rfl) ⟨rfl, rfl⟩) (by intros; rfl) (by intro y y2 h; rfl) ?_
        refine net_nil ?_
        intro y hA
        clear hA
        refine thn_n ?_
        refine w_keep _ (.cons (d := 4) rfl (.nil _)) ?_
        refine w_sub (M := Deep 23 (.sl 5 (.int .u8)) pb Ls.length Ls :: RdR U5 pm M.length M :: RdR I3 ps S.length S :: Row U5 (slP (y 4)) (DefP.shF out).length (slC (y 4)) (DefP.shF out) :: DM bm out none :: Row U5 (slP (y 7)) (DefP.shF out).length (slC (y 7)) (DefP.shF out) :: Row U5 q out.length c out :: F) (fun _ _ h => h) ?_
        refine w_sub (sub .nil (.keep (.keep (.keep (.skip (.keep (.skip (.skip .refl)))))))) ?_
        simp only [List.nil_append]
        generalize (slP (y 4)) = q139
        generalize (slP (y 7)) = q142
        refine rC TTDfO 1 rfl ?_
        exact ret_ok (G := [Deep 23 (.sl 5 (.int .u8)) pb Ls.length Ls, RdR U5 pm M.length M, RdR I3 ps S.length S]) (res1 rfl) ⟨rfl, rfl⟩ (sub (.cons (by exact rr0) (.cons (by exact rr0) (.cons (by exact rr0) .nil))) (by exact dd1))
end Go.Proofs.Ythmgkggpipnalaa

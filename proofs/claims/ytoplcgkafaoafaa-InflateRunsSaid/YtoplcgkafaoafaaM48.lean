/- Steps of the proof: the walks of the functions that the statement reaches; printed by a program of ours. -/
import Derived.Test.YtoplcgkafaoafaaInfAA
import Derived.Test.YtoplcgkafaoafaaM39
import Derived.Test.YtoplcgkafaoafaaM38
/-
 Steps of the proof: walks of functions that the statement reaches; printed by a program of ours.
-/
namespace Go.Proofs.Ytoplcgkafaoafaa
open Go.Sl 
set_option linter.unusedVariables false
set_option linter.unusedSimpArgs false

attribute [local irreducible] HuffP.newE HuffP.tk HuffP.ord HuffP.cntL HuffP.words HuffP.mostL InfP.frs InfP.toldC InfP.toldN InfP.toldA InfP.hL InfP.hD InfP.hC InfP.lnGo InfP.told InfP.fixL InfP.codeE InfP.rep InfP.lenE InfP.awayE InfP.sym InfP.alg BitP.numL InfP.coded InfP.begin_ InfP.one InfP.put_ InfP.lnB InfP.dsB InfP.lnM InfP.dsM InfP.fixD

end Go.Proofs.Ytoplcgkafaoafaa

/-
 Steps of the proof: walks of functions that the statement reaches; printed by a program of ours.
-/
namespace Go.Proofs.Ytoplcgkafaoafaa
open Go.Sl 
set_option linter.unusedVariables false
set_option linter.unusedSimpArgs false

attribute [local irreducible] HuffP.newE HuffP.tk HuffP.ord HuffP.cntL HuffP.words HuffP.mostL InfP.frs InfP.toldC InfP.toldN InfP.toldA InfP.hL InfP.hD InfP.hC InfP.lnGo InfP.told InfP.fixL InfP.codeE InfP.rep InfP.lenE InfP.awayE InfP.sym InfP.alg BitP.numL InfP.coded InfP.begin_ InfP.one InfP.put_ InfP.lnB InfP.dsB InfP.lnM InfP.dsM

set_option maxHeartbeats 2000000 in
set_option maxRecDepth 100000 in
theorem l_awake  : Ctr Try.prog 10 [] [] (Ret fun v G => v = .bool true ∧ G = []) := by
 refine spec_of [] Try.func10 rfl Try.ntmps10 rfl rfl ?_
 intro w0 F
 refine w_seq ?_
 refine w_region ?_
 refine o_val (v_assign rfl) rfl ?_
 refine o_nil ?_
 refine thn_n ?_
 refine w_seq ?_
 refine w_region ?_
 refine r_build (U5) [3, 0] V.sl22 V.z5 rfl rfl rfl rfl rfl rfl ?_
 intro b8
 refine o_call (c_all (some ⟨b8, 0, none⟩) 2 [3, 0] (Row U5 (some ⟨b8, 0, none⟩) 2 2 [3, 0]) (fun _ _ hh => hh.rd) (by decide) (by unfold BitP.Byt; decide) 9 (by decide) (([] : List Int), (2 : Int), (0 : Int)) InfP.awake1) V.b11  rfl (.cons (by repeat first | exact .head | apply Rem.tail) .nil) rfl ?_
 rintro _ _ ⟨q9, c9, rfl, rfl⟩
 refine o_val (v_move rfl) rfl ?_
 refine o_val (v_extract rfl rfl) rfl ?_
 refine o_val (v_extract rfl rfl) rfl ?_
 refine o_val (v_extract rfl rfl) rfl ?_
 refine o_val (v_assign rfl) rfl ?_
 refine o_val (v_assign rfl) rfl ?_
 refine o_val (v_assign rfl) rfl ?_
 refine o_nil ?_
 refine thn_n ?_
 refine w_seq ?_
 refine w_region ?_
 refine r_build (U5) [1, 2, 0, 253, 255, 7, 8, 9] V.sl22 V.z5 rfl rfl rfl rfl rfl rfl ?_
 intro b14
 refine o_call (c_all (some ⟨b14, 0, none⟩) 8 [1, 2, 0, 253, 255, 7, 8, 9] (Row U5 (some ⟨b14, 0, none⟩) 8 8 [1, 2, 0, 253, 255, 7, 8, 9]) (fun _ _ hh => hh.rd) (by decide) (by unfold BitP.Byt; decide) 9 (by decide) (([7, 8] : List Int), (7 : Int), (0 : Int)) InfP.awake2) V.b11  rfl (.cons (by repeat first | exact .head | apply Rem.tail) .nil) rfl ?_
 rintro _ _ ⟨q15, c15, rfl, rfl⟩
 refine o_val (v_move rfl) rfl ?_
 refine o_val (v_extract rfl rfl) rfl ?_
 refine o_val (v_extract rfl rfl) rfl ?_
 refine o_val (v_extract rfl rfl) rfl ?_
 refine o_val (v_assign rfl) rfl ?_
 refine o_val (v_assign rfl) rfl ?_
 refine o_val (v_assign rfl) rfl ?_
 refine o_nil ?_
 refine thn_n ?_
 refine w_seq ?_
 refine w_region ?_
 refine o_val (v_move rfl) rfl ?_
 refine o_val (v_T (v_eql rfl rfl) rfl) rfl ?_
 refine o_val (v_move rfl) rfl ?_
 refine o_want rfl ?_
 refine o_val (v_move rfl) rfl ?_
 refine o_want rfl ?_
 refine o_val (v_T (v_eql rfl rfl) rfl) rfl ?_
 refine o_val (v_pickT rfl rfl) rfl ?_
 refine o_val (v_move rfl) rfl ?_
 refine o_want rfl ?_
 refine o_val (v_move rfl) rfl ?_
 refine o_want rfl ?_
 refine o_val (v_len (ty' := 0) Try.underlying22 rfl) rfl ?_
 refine o_want rfl ?_
 refine o_val (v_T (v_eql rfl rfl) rfl) rfl ?_
 refine o_val (v_pickT rfl rfl) rfl ?_
 refine o_val (v_move rfl) rfl ?_
 refine o_want rfl ?_
 refine o_val (v_move rfl) rfl ?_
 refine o_want rfl ?_
 refine o_val (v_T (v_eql rfl rfl) rfl) rfl ?_
 refine o_val (v_pickT rfl rfl) rfl ?_
 refine o_val (v_move rfl) rfl ?_
 refine o_want rfl ?_
 refine o_val (v_move rfl) rfl ?_
 refine o_want rfl ?_
 refine o_val (v_T (v_eql rfl rfl) rfl) rfl ?_
 refine o_val (v_pickT rfl rfl) rfl ?_
 refine o_val (v_move rfl) rfl ?_
 refine o_want rfl ?_
 refine o_val (v_move rfl) rfl ?_
 refine o_want rfl ?_
 refine o_val (v_str (T := 5) Try.underlying22 Try.underlying5 Try.underlying9 rfl (own (by repeat first | exact .head _ | apply List.Mem.tail))) rfl ?_
 refine o_want rfl ?_
 refine o_val (v_sself (s := strOfNums [7, 8]) rfl rfl) rfl ?_
 refine o_val (v_pickT rfl rfl) rfl ?_
 refine o_val (v_assign rfl) rfl ?_
 refine o_nil ?_
 refine thn_n ?_
 refine w_ret ?_
 exact ret_ok (G := []) (res1 rfl) ⟨rfl, rfl⟩ (sub .nil (by repeat first | exact .refl | apply Drop.skip))

end Go.Proofs.Ytoplcgkafaoafaa

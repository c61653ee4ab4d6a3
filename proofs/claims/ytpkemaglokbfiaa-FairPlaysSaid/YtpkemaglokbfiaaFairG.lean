/- Steps of the proof: the walks of the functions that the statement reaches; printed by a program of ours. -/
import Derived.Test.YtpkemaglokbfiaaProg
import Derived.KernelRfl
import Derived.Test.YtpkemaglokbfiaaFairF
namespace Go.Proofs.Ytpkemaglokbfiaa
open Go.Sl Go.FairP
set_option linter.unusedVariables false
set_option linter.unusedSimpArgs false
theorem T.b15 : bodyB Try.prog 15 = true := by kernel_rfl
theorem T.b16 : bodyB Try.prog 16 = true := by kernel_rfl
theorem T.b9 : bodyB Try.prog 9 = true := by kernel_rfl


theorem half8 : Fq 4602678819172646912 8 := fq_of (by decide +kernel)
theorem four64 : Fq 4616189618054758400 64 := fq_of (by decide +kernel)


set_option maxHeartbeats 2000000 in
set_option maxRecDepth 100000 in
theorem known  : Ctr Try.prog 5 [] [] (Ret fun v G => v = .bool true ∧ G = []) := by
  refine spec_of [] Try.func5 rfl Try.ntmps5 rfl rfl ?_
  intro w0 F
  refine w_seq ?_
  refine w_region ?_
  refine o_val (v_assign rfl) rfl ?_
  refine o_nil ?_
  refine thn_n ?_
  refine w_seq ?_
  refine w_seq ?_
  refine w_region ?_
  refine o_call (awake) T.b9  rfl .nil rfl ?_
  rintro _ _ ⟨rfl, rfl⟩
  refine o_val (v_to (v := .bool false) (v_not rfl) rfl) rfl ?_
  refine o_nil ?_
  refine thn_n ?_
  refine w_condF rfl ?_
  refine w_skip ?_
  refine thn_n ?_
  refine w_seq ?_
  refine w_region ?_
  refine o_call (new) T.b10  rfl .nil rfl ?_
  rintro _ _ ⟨bf, rfl, rfl⟩
  refine o_val (v_assign rfl) rfl ?_
  refine o_nil ?_
  refine thn_n ?_
  refine w_seq ?_
  refine w_seq ?_
  refine w_region ?_
  refine o_val (v_move rfl) rfl ?_
  refine o_val (v_to (v := .bool false) (v_eqnil Try.underlying24 rfl rfl) rfl) rfl ?_
  refine o_nil ?_
  refine thn_n ?_
  refine w_condF rfl ?_
  refine w_skip ?_
  refine thn_n ?_
  refine w_seq ?_
  refine w_region ?_
  refine o_val (v_move rfl) rfl ?_
  refine o_call (join_ok bf 3 _ [] (by decide) 16 one16 (by decide) (by decide) rfl) T.b11  rfl (.cons (by first | exact rr0 | exact rr1 | exact rr2 | exact rr3 | exact rr4 | exact rr5 | exact rr6 | exact rr7) .nil) rfl ?_
  rintro _ _ ⟨rfl, rfl⟩
  refine o_val (v_move rfl) rfl ?_
  refine o_call (join_ok bf 1 _ [⟨3, 16, 0⟩] (by decide) 8 half8 (by decide) (by decide) rfl) T.b11  rfl (.cons (by first | exact rr0 | exact rr1 | exact rr2 | exact rr3 | exact rr4 | exact rr5 | exact rr6 | exact rr7) .nil) rfl ?_
  rintro _ _ ⟨rfl, rfl⟩
  refine o_val (v_move rfl) rfl ?_
  refine o_call (join_in bf 3 _ [⟨3, 16, 0⟩, ⟨1, 8, 0⟩] (by decide) 16 one16 (by decide) (by decide) 0 rfl) T.b11  rfl (.cons (by first | exact rr0 | exact rr1 | exact rr2 | exact rr3 | exact rr4 | exact rr5 | exact rr6 | exact rr7) .nil) rfl ?_
  rintro _ _ ⟨rfl, rfl⟩
  refine o_val (v_assign rfl) rfl ?_
  refine o_val (v_assign rfl) rfl ?_
  refine o_val (v_assign rfl) rfl ?_
  refine o_nil ?_
  refine thn_n ?_
  refine w_seq ?_
  refine w_region ?_
  refine o_val (v_move rfl) rfl ?_
  refine o_buildSlice (vs := bools [true, true, true, true]) T.sl26 T.z4 rfl rfl (pevs_spec rfl) rfl rfl rfl ?_
  intro b35
  refine o_call (next_yes bf [⟨3, 16, 0⟩, ⟨1, 8, 0⟩] [true, true, true, true] (some ⟨b35, 0, none⟩) 4 (Sl (some ⟨b35, 0, none⟩) 4 4 4 1 (bools [true, true, true, true])) (fun _ _ h => Sl.rd h) (by decide) (by decide) 0 rfl) T.b12  rfl (.cons (by first | exact rr0 | exact rr1 | exact rr2 | exact rr3 | exact rr4 | exact rr5 | exact rr6 | exact rr7) (.cons (by first | exact rr0 | exact rr1 | exact rr2 | exact rr3 | exact rr4 | exact rr5 | exact rr6 | exact rr7) .nil)) rfl ?_
  rintro _ _ ⟨rfl, rfl⟩
  refine o_val (v_move rfl) rfl ?_
  refine o_val (v_extract rfl rfl) rfl ?_
  refine o_val (v_extract rfl rfl) rfl ?_
  refine o_val (v_extract rfl rfl) rfl ?_
  refine o_val (v_assign rfl) rfl ?_
  refine o_val (v_assign rfl) rfl ?_
  refine o_val (v_assign rfl) rfl ?_
  refine o_nil ?_
  refine thn_n ?_
  refine w_seq ?_
  refine w_region ?_
  refine o_val (v_move rfl) rfl ?_
  refine o_call (spend_some bf 3 10 ⟨3, 16, 16⟩ [⟨1, 8, 0⟩] (by decide) rfl (by decide) (by decide) (by decide)) T.b13  rfl (.cons (by first | exact rr0 | exact rr1 | exact rr2 | exact rr3 | exact rr4 | exact rr5 | exact rr6 | exact rr7) .nil) rfl ?_
  rintro _ _ ⟨rfl, rfl⟩
  refine o_val (v_assign rfl) rfl ?_
  refine o_nil ?_
  refine thn_n ?_
  refine w_seq ?_
  refine w_region ?_
  refine o_val (v_move rfl) rfl ?_
  refine o_call (join_ok bf 0 _ [⟨3, 16, 6⟩, ⟨1, 8, 0⟩] (by decide) 64 four64 (by decide) (by decide) rfl) T.b11  rfl (.cons (by first | exact rr0 | exact rr1 | exact rr2 | exact rr3 | exact rr4 | exact rr5 | exact rr6 | exact rr7) .nil) rfl ?_
  rintro _ _ ⟨rfl, rfl⟩
  refine o_val (v_assign rfl) rfl ?_
  refine o_nil ?_
  refine thn_n ?_
  refine w_seq ?_
  refine w_region ?_
  refine o_val (v_move rfl) rfl ?_
  refine o_buildSlice (vs := bools [true, true, true, true]) T.sl26 T.z4 rfl rfl (pevs_spec rfl) rfl rfl rfl ?_
  intro b46
  refine o_call (next_yes bf [⟨3, 16, 6⟩, ⟨1, 8, 0⟩, ⟨0, 64, 0⟩] [true, true, true, true] (some ⟨b46, 0, none⟩) 4 (Sl (some ⟨b46, 0, none⟩) 4 4 4 1 (bools [true, true, true, true])) (fun _ _ h => Sl.rd h) (by decide) (by decide) 0 rfl) T.b12  rfl (.cons (by first | exact rr0 | exact rr1 | exact rr2 | exact rr3 | exact rr4 | exact rr5 | exact rr6 | exact rr7) (.cons (by first | exact rr0 | exact rr1 | exact rr2 | exact rr3 | exact rr4 | exact rr5 | exact rr6 | exact rr7) .nil)) rfl ?_
  rintro _ _ ⟨rfl, rfl⟩
  refine o_val (v_move rfl) rfl ?_
  refine o_val (v_extract rfl rfl) rfl ?_
  refine o_val (v_extract rfl rfl) rfl ?_
  refine o_val (v_extract rfl rfl) rfl ?_
  refine o_val (v_assign rfl) rfl ?_
  refine o_val (v_assign rfl) rfl ?_
  refine o_val (v_assign rfl) rfl ?_
  refine o_nil ?_
  refine thn_n ?_
  refine w_seq ?_
  refine w_region ?_
  refine o_val (v_move rfl) rfl ?_
  refine o_buildSlice (vs := bools [true, true]) T.sl26 T.z4 rfl rfl (pevs_spec rfl) rfl rfl rfl ?_
  intro b53
  refine o_call (next_yes bf [⟨3, 16, 6⟩, ⟨1, 8, 0⟩, ⟨0, 64, 0⟩] [true, true] (some ⟨b53, 0, none⟩) 2 (Sl (some ⟨b53, 0, none⟩) 2 2 4 1 (bools [true, true])) (fun _ _ h => Sl.rd h) (by decide) (by decide) 1 rfl) T.b12  rfl (.cons (by first | exact rr0 | exact rr1 | exact rr2 | exact rr3 | exact rr4 | exact rr5 | exact rr6 | exact rr7) (.cons (by first | exact rr0 | exact rr1 | exact rr2 | exact rr3 | exact rr4 | exact rr5 | exact rr6 | exact rr7) .nil)) rfl ?_
  rintro _ _ ⟨rfl, rfl⟩
  refine o_val (v_move rfl) rfl ?_
  refine o_val (v_extract rfl rfl) rfl ?_
  refine o_val (v_extract rfl rfl) rfl ?_
  refine o_val (v_extract rfl rfl) rfl ?_
  refine o_val (v_assign rfl) rfl ?_
  refine o_val (v_assign rfl) rfl ?_
  refine o_val (v_assign rfl) rfl ?_
  refine o_nil ?_
  refine thn_n ?_
  refine w_seq ?_
  refine w_region ?_
  refine o_val (v_move rfl) rfl ?_
  refine o_call (credit_yes bf 3 [⟨1, 8, 8⟩, ⟨0, 64, 0⟩, ⟨3, 16, 0⟩] (by decide) 2 rfl) T.b14  rfl (.cons (by first | exact rr0 | exact rr1 | exact rr2 | exact rr3 | exact rr4 | exact rr5 | exact rr6 | exact rr7) .nil) rfl ?_
  rintro _ _ ⟨rfl, rfl⟩
  refine o_val (v_assign rfl) rfl ?_
  refine o_nil ?_
  refine thn_n ?_
  refine w_seq ?_
  refine w_region ?_
  refine o_val (v_move rfl) rfl ?_
  refine o_call (order bf [⟨1, 8, 8⟩, ⟨0, 64, 0⟩, ⟨3, 16, 0⟩] (by decide)) T.b15  rfl (.cons (by first | exact rr0 | exact rr1 | exact rr2 | exact rr3 | exact rr4 | exact rr5 | exact rr6 | exact rr7) .nil) rfl ?_
  rintro _ _ ⟨p2, c2, rfl, rfl⟩
  refine o_some (p := p2) (by first | exact mm0 | exact mm1 | exact mm2 | exact mm3 | exact mm4 | exact mm5 | exact mm6 | exact mm7) (by decide) (fun bo oo e => ?_)
  subst e
  refine o_val (v_assign rfl) rfl ?_
  refine o_nil ?_
  refine thn_n ?_
  refine w_seq ?_
  refine w_region ?_
  refine o_val (v_move rfl) rfl ?_
  refine o_call (leave_yes bf 1 [⟨1, 8, 8⟩, ⟨0, 64, 0⟩, ⟨3, 16, 0⟩] (by decide) 0 rfl) T.b16  rfl (.cons (by first | exact rr0 | exact rr1 | exact rr2 | exact rr3 | exact rr4 | exact rr5 | exact rr6 | exact rr7) .nil) rfl ?_
  rintro _ _ ⟨rfl, rfl⟩
  refine o_val (v_assign rfl) rfl ?_
  refine o_nil ?_
  refine thn_n ?_
  refine w_seq ?_
  refine w_region ?_
  refine o_val (v_move rfl) rfl ?_
  refine o_buildSlice (vs := bools [true, true, true, true]) T.sl26 T.z4 rfl rfl (pevs_spec rfl) rfl rfl rfl ?_
  intro b66
  refine o_call (next_yes bf [⟨0, 64, 0⟩, ⟨3, 16, 0⟩] [true, true, true, true] (some ⟨b66, 0, none⟩) 4 (Sl (some ⟨b66, 0, none⟩) 4 4 4 1 (bools [true, true, true, true])) (fun _ _ h => Sl.rd h) (by decide) (by decide) 0 rfl) T.b12  rfl (.cons (by first | exact rr0 | exact rr1 | exact rr2 | exact rr3 | exact rr4 | exact rr5 | exact rr6 | exact rr7) (.cons (by first | exact rr0 | exact rr1 | exact rr2 | exact rr3 | exact rr4 | exact rr5 | exact rr6 | exact rr7) .nil)) rfl ?_
  rintro _ _ ⟨rfl, rfl⟩
  refine o_val (v_move rfl) rfl ?_
  refine o_val (v_extract rfl rfl) rfl ?_
  refine o_val (v_extract rfl rfl) rfl ?_
  refine o_val (v_extract rfl rfl) rfl ?_
  refine o_val (v_assign rfl) rfl ?_
  refine o_val (v_assign rfl) rfl ?_
  refine o_val (v_assign rfl) rfl ?_
  refine o_nil ?_
  refine thn_n ?_
  refine w_seq ?_
  refine w_region ?_
  refine o_val (v_move rfl) rfl ?_
  refine o_val (v_T (v_eql rfl rfl) rfl) rfl ?_
  refine o_val (v_move rfl) rfl ?_
  refine o_want rfl ?_
  refine o_val (v_move rfl) rfl ?_
  refine o_want rfl ?_
  refine o_val (v_T (v_eql rfl rfl) rfl) rfl ?_
  refine o_val (v_pickT rfl rfl) rfl ?_
  refine o_val (v_move rfl) rfl ?_
  refine o_want rfl ?_
  refine o_val (v_move rfl) rfl ?_
  refine o_want rfl ?_
  refine o_val (v_T (v_eql rfl rfl) rfl) rfl ?_
  refine o_val (v_pickT rfl rfl) rfl ?_
  refine o_val (v_move rfl) rfl ?_
  refine o_want rfl ?_
  refine o_val (v_move rfl) rfl ?_
  refine o_want rfl ?_
  refine o_val (v_T (v_eql rfl rfl) rfl) rfl ?_
  refine o_val (v_pickT rfl rfl) rfl ?_
  refine o_val (v_move rfl) rfl ?_
  refine o_want rfl ?_
  refine o_val (v_move rfl) rfl ?_
  refine o_want rfl ?_
  refine o_val (v_T (v_eql rfl rfl) rfl) rfl ?_
  refine o_val (v_pickT rfl rfl) rfl ?_
  refine o_val (v_move rfl) rfl ?_
  refine o_want rfl ?_
  refine o_val (v_move rfl) rfl ?_
  refine o_val (v_pickT rfl rfl) rfl ?_
  refine o_val (v_move rfl) rfl ?_
  refine o_want rfl ?_
  refine o_val (v_move rfl) rfl ?_
  refine o_want rfl ?_
  refine o_val (v_T (v_eql rfl rfl) rfl) rfl ?_
  refine o_val (v_pickT rfl rfl) rfl ?_
  refine o_val (v_move rfl) rfl ?_
  refine o_want rfl ?_
  refine o_val (v_move rfl) rfl ?_
  refine o_want rfl ?_
  refine o_val (v_T (v_eql rfl rfl) rfl) rfl ?_
  refine o_val (v_pickT rfl rfl) rfl ?_
  refine o_val (v_move rfl) rfl ?_
  refine o_want rfl ?_
  refine o_val (v_move rfl) rfl ?_
  refine o_want rfl ?_
  refine o_val (v_T (v_eql rfl rfl) rfl) rfl ?_
  refine o_val (v_pickT rfl rfl) rfl ?_
  refine o_val (v_move rfl) rfl ?_
  refine o_want rfl ?_
  refine o_val (v_move rfl) rfl ?_
  refine o_want rfl ?_
  refine o_val (v_T (v_eql rfl rfl) rfl) rfl ?_
  refine o_val (v_pickT rfl rfl) rfl ?_
  refine o_val (v_move rfl) rfl ?_
  refine o_want rfl ?_
  refine o_val (v_move rfl) rfl ?_
  refine o_want rfl ?_
  refine o_val (v_T (v_eql rfl rfl) rfl) rfl ?_
  refine o_val (v_pickT rfl rfl) rfl ?_
  refine o_val (v_move rfl) rfl ?_
  refine o_want rfl ?_
  refine o_val (v_move rfl) rfl ?_
  refine o_want rfl ?_
  refine o_val (v_T (v_eql rfl rfl) rfl) rfl ?_
  refine o_val (v_pickT rfl rfl) rfl ?_
  refine o_val (v_move rfl) rfl ?_
  refine o_want rfl ?_
  refine o_val (v_move rfl) rfl ?_
  refine o_want rfl ?_
  refine o_val (v_len (ty' := 0) Try.underlying27 rfl) rfl ?_
  refine o_want rfl ?_
  refine o_val (v_T (v_eql rfl rfl) rfl) rfl ?_
  refine o_val (v_pickT rfl rfl) rfl ?_
  refine o_val (v_move rfl) rfl ?_
  refine o_want rfl ?_
  refine o_val (v_move rfl) rfl ?_
  refine o_want rfl ?_
  refine o_val (v_index1 0 rfl T.sl27 rfl rfl (by decide)) rfl ?_
  refine o_want rfl ?_
  refine o_val (v_to (v := .int .i64 1) (v_loadS 0 T.s3 rfl (by first | exact mm0 | exact mm1 | exact mm2 | exact mm3 | exact mm4 | exact mm5 | exact mm6 | exact mm7) (by omega) rfl) rfl) rfl ?_
  refine o_want rfl ?_
  refine o_val (v_T (v_eql rfl rfl) rfl) rfl ?_
  refine o_val (v_pickT rfl rfl) rfl ?_
  refine o_val (v_move rfl) rfl ?_
  refine o_want rfl ?_
  refine o_val (v_move rfl) rfl ?_
  refine o_want rfl ?_
  refine o_val (v_index1 1 rfl T.sl27 rfl rfl (by decide)) rfl ?_
  refine o_want rfl ?_
  refine o_val (v_to (v := .int .i64 0) (v_loadS 1 T.s3 rfl (by first | exact mm0 | exact mm1 | exact mm2 | exact mm3 | exact mm4 | exact mm5 | exact mm6 | exact mm7) (by omega) rfl) rfl) rfl ?_
  refine o_want rfl ?_
  refine o_val (v_T (v_eql rfl rfl) rfl) rfl ?_
  refine o_val (v_pickT rfl rfl) rfl ?_
  refine o_val (v_move rfl) rfl ?_
  refine o_want rfl ?_
  refine o_val (v_move rfl) rfl ?_
  refine o_want rfl ?_
  refine o_val (v_index1 2 rfl T.sl27 rfl rfl (by decide)) rfl ?_
  refine o_want rfl ?_
  refine o_val (v_to (v := .int .i64 3) (v_loadS 2 T.s3 rfl (by first | exact mm0 | exact mm1 | exact mm2 | exact mm3 | exact mm4 | exact mm5 | exact mm6 | exact mm7) (by omega) rfl) rfl) rfl ?_
  refine o_want rfl ?_
  refine o_val (v_T (v_eql rfl rfl) rfl) rfl ?_
  refine o_val (v_pickT rfl rfl) rfl ?_
  refine o_val (v_move rfl) rfl ?_
  refine o_want rfl ?_
  refine o_val (v_move rfl) rfl ?_
  refine o_val (v_pickT rfl rfl) rfl ?_
  refine o_val (v_move rfl) rfl ?_
  refine o_want rfl ?_
  refine o_val (v_move rfl) rfl ?_
  refine o_want rfl ?_
  refine o_val (v_T (v_eql rfl rfl) rfl) rfl ?_
  refine o_val (v_pickT rfl rfl) rfl ?_
  refine o_val (v_move rfl) rfl ?_
  refine o_want rfl ?_
  refine o_val (v_move rfl) rfl ?_
  refine o_want rfl ?_
  refine o_val (v_T (v_eql rfl rfl) rfl) rfl ?_
  refine o_val (v_pickT rfl rfl) rfl ?_
  refine o_val (v_assign rfl) rfl ?_
  refine o_nil ?_
  refine thn_n ?_
  refine w_ret ?_
  exact ret_ok (G := []) (res1 rfl) ⟨rfl, rfl⟩ (sub .nil (by first | exact dd0 | exact dd1 | exact dd2 | exact dd3 | exact dd4 | exact dd5 | exact dd6 | exact dd7 | exact dd8))

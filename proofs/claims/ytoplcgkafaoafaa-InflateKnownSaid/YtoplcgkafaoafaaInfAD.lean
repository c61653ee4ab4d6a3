/-
 Steps of the proof: walks of functions that the statement reaches; printed by a program of ours.
-/
import Derived.Test.YtoplcgkafaoafaaM48
import Derived.Test.YtoplcgkafaoafaaM49
namespace Go.Proofs.Ytoplcgkafaoafaa
open Go.Sl 
set_option linter.unusedVariables false
set_option linter.unusedSimpArgs false

attribute [local irreducible] HuffP.newE HuffP.tk HuffP.ord HuffP.cntL HuffP.words HuffP.mostL InfP.frs InfP.toldC InfP.toldN InfP.toldA InfP.hL InfP.hD InfP.hC InfP.lnGo InfP.told InfP.fixL InfP.codeE InfP.rep InfP.lenE InfP.awayE InfP.sym InfP.alg BitP.numL InfP.coded InfP.begin_ InfP.one InfP.put_ InfP.lnB InfP.dsB InfP.lnM InfP.dsM

set_option maxHeartbeats 2000000 in
set_option maxRecDepth 100000 in
theorem l_known  : Ctr Try.prog 9 [] [] (Ret fun v G => v = .bool true ∧ G = []) := by
 refine spec_of [] Try.func9 rfl Try.ntmps9 rfl rfl ?_
 intro w0 F
 refine w_seq ?_
 refine w_region ?_
 refine o_val (v_assign rfl) rfl ?_
 refine o_nil ?_
 refine thn_n ?_
 refine w_seq ?_
 refine w_seq ?_
 refine w_region ?_
 refine o_call (l_awake) V.b10  rfl .nil rfl ?_
 rintro _ _ ⟨rfl, rfl⟩
 refine o_val (v_to (v := .bool false) (v_not rfl) rfl) rfl ?_
 refine o_nil ?_
 refine thn_n ?_
 refine w_condF rfl ?_
 refine w_skip ?_
 refine thn_n ?_
 refine w_seq ?_
 refine w_region ?_
 refine r_build (U5) [203, 72, 205, 201, 201, 7, 0] V.sl22 V.z5 rfl rfl rfl rfl rfl rfl ?_
 intro b22
 refine o_call (c_all (some ⟨b22, 0, none⟩) 7 [203, 72, 205, 201, 201, 7, 0] (Row U5 (some ⟨b22, 0, none⟩) 7 7 [203, 72, 205, 201, 201, 7, 0]) (fun _ _ hh => hh.rd) (by decide) (by unfold BitP.Byt; decide) 99 (by decide) (([104, 101, 108, 108, 111] : List Int), (7 : Int), (0 : Int)) InfP.known1) V.b11  rfl (.cons (by repeat first | exact .head | apply Rem.tail) .nil) rfl ?_
 rintro _ _ ⟨qa3, ca3, rfl, rfl⟩
 refine o_val (v_move rfl) rfl ?_
 refine o_val (v_extract rfl rfl) rfl ?_
 refine o_val (v_extract rfl rfl) rfl ?_
 refine o_val (v_extract rfl rfl) rfl ?_
 refine o_val (v_assign rfl) rfl ?_
 refine o_val (v_assign rfl) rfl ?_
 refine o_val (v_assign rfl) rfl ?_
 refine o_nil ?_
 refine thn_n ?_
 refine w_seq ?_
 refine w_region ?_
 refine r_build (U5) [7, 0] V.sl22 V.z5 rfl rfl rfl rfl rfl rfl ?_
 intro b28
 refine o_call (c_all (some ⟨b28, 0, none⟩) 2 [7, 0] (Row U5 (some ⟨b28, 0, none⟩) 2 2 [7, 0]) (fun _ _ hh => hh.rd) (by decide) (by unfold BitP.Byt; decide) 99 (by decide) (([] : List Int), (0 : Int), (4 : Int)) InfP.known2) V.b11  rfl (.cons (by repeat first | exact .head | apply Rem.tail) .nil) rfl ?_
 rintro _ _ ⟨qa4, ca4, rfl, rfl⟩
 refine o_val (v_move rfl) rfl ?_
 refine o_val (v_extract rfl rfl) rfl ?_
 refine o_val (v_extract rfl rfl) rfl ?_
 refine o_val (v_extract rfl rfl) rfl ?_
 refine o_val (v_assign rfl) rfl ?_
 refine o_val (v_assign rfl) rfl ?_
 refine o_val (v_assign rfl) rfl ?_
 refine o_nil ?_
 refine thn_n ?_
 refine w_seq ?_
 refine w_region ?_
 refine r_build (U5) [1, 2, 0, 253, 254, 1, 2] V.sl22 V.z5 rfl rfl rfl rfl rfl rfl ?_
 intro b34
 refine o_call (c_all (some ⟨b34, 0, none⟩) 7 [1, 2, 0, 253, 254, 1, 2] (Row U5 (some ⟨b34, 0, none⟩) 7 7 [1, 2, 0, 253, 254, 1, 2]) (fun _ _ hh => hh.rd) (by decide) (by unfold BitP.Byt; decide) 99 (by decide) (([] : List Int), (0 : Int), (4 : Int)) InfP.known3) V.b11  rfl (.cons (by repeat first | exact .head | apply Rem.tail) .nil) rfl ?_
 rintro _ _ ⟨qa5, ca5, rfl, rfl⟩
 refine o_val (v_move rfl) rfl ?_
 refine o_val (v_extract rfl rfl) rfl ?_
 refine o_val (v_extract rfl rfl) rfl ?_
 refine o_val (v_extract rfl rfl) rfl ?_
 refine o_val (v_assign rfl) rfl ?_
 refine o_val (v_assign rfl) rfl ?_
 refine o_val (v_assign rfl) rfl ?_
 refine o_nil ?_
 refine thn_n ?_
 refine w_seq ?_
 refine w_region ?_
 refine o_add0 (Row U5 none 0 0 []) (Row.nil _ _ _) ?_
 refine o_call (c_all none 0 [] (Row U5 none 0 0 []) (fun _ _ hh => hh.rd) (by decide) (by unfold BitP.Byt; decide) 99 (by decide) (([] : List Int), (0 : Int), (2 : Int)) InfP.known4) V.b11  rfl (.cons (by repeat first | exact .head | apply Rem.tail) .nil) rfl ?_
 rintro _ _ ⟨qa6, ca6, rfl, rfl⟩
 refine o_val (v_move rfl) rfl ?_
 refine o_val (v_extract rfl rfl) rfl ?_
 refine o_val (v_extract rfl rfl) rfl ?_
 refine o_val (v_extract rfl rfl) rfl ?_
 refine o_val (v_assign rfl) rfl ?_
 refine o_val (v_assign rfl) rfl ?_
 refine o_val (v_assign rfl) rfl ?_
 refine o_nil ?_
 refine thn_n ?_
 refine w_seq ?_
 refine w_region ?_
 refine r_build (U5) [3, 0] V.sl22 V.z5 rfl rfl rfl rfl rfl rfl ?_
 intro b45
 refine o_call (c_all (some ⟨b45, 0, none⟩) 2 [3, 0] (Row U5 (some ⟨b45, 0, none⟩) 2 2 [3, 0]) (fun _ _ hh => hh.rd) (by decide) (by unfold BitP.Byt; decide) (-1) (by decide) (([] : List Int), (0 : Int), (1 : Int)) InfP.known5) V.b11  rfl (.cons (by repeat first | exact .head | apply Rem.tail) .nil) rfl ?_
 rintro _ _ ⟨qa7, ca7, rfl, rfl⟩
 refine o_val (v_move rfl) rfl ?_
 refine o_val (v_extract rfl rfl) rfl ?_
 refine o_val (v_extract rfl rfl) rfl ?_
 refine o_val (v_extract rfl rfl) rfl ?_
 refine o_val (v_assign rfl) rfl ?_
 refine o_val (v_assign rfl) rfl ?_
 refine o_val (v_assign rfl) rfl ?_
 refine o_nil ?_
 refine thn_n ?_
 refine w_seq ?_
 refine w_region ?_
 refine r_build (U5) [5, 255, 255] V.sl22 V.z5 rfl rfl rfl rfl rfl rfl ?_
 intro b51
 refine o_call (c_all (some ⟨b51, 0, none⟩) 3 [5, 255, 255] (Row U5 (some ⟨b51, 0, none⟩) 3 3 [5, 255, 255]) (fun _ _ hh => hh.rd) (by decide) (by unfold BitP.Byt; decide) 99 (by decide) (([] : List Int), (0 : Int), (4 : Int)) InfP.known6) V.b11  rfl (.cons (by repeat first | exact .head | apply Rem.tail) .nil) rfl ?_
 rintro _ _ ⟨qa8, ca8, rfl, rfl⟩
 refine o_val (v_move rfl) rfl ?_
 refine o_val (v_extract rfl rfl) rfl ?_
 refine o_val (v_extract rfl rfl) rfl ?_
 refine o_val (v_extract rfl rfl) rfl ?_
 refine o_val (v_assign rfl) rfl ?_
 refine o_val (v_assign rfl) rfl ?_
 refine o_val (v_assign rfl) rfl ?_
 refine o_nil ?_
 refine thn_n ?_
 refine w_seq ?_
 refine w_region ?_
 refine o_val (v_move rfl) rfl ?_
 refine o_val (v_T (v_eql rfl rfl) rfl) rfl ?_
 refine o_val (v_move rfl) rfl ?_
 refine o_want rfl ?_
 refine o_val (v_move rfl) rfl ?_
 refine o_want rfl ?_
 refine o_val (v_T (v_eql rfl rfl) rfl) rfl ?_
 refine o_val (v_pickT rfl rfl) rfl ?_
 refine o_val (v_move rfl) rfl ?_
 refine o_want rfl ?_
 refine o_val (v_move rfl) rfl ?_
 refine o_want rfl ?_
 refine o_val (v_str (T := 5) Try.underlying22 Try.underlying5 Try.underlying9 rfl (own (by repeat first | exact .head _ | apply List.Mem.tail))) rfl ?_
 refine o_want rfl ?_
 refine o_val (v_sself (s := strOfNums [104, 101, 108, 108, 111]) rfl rfl) rfl ?_
 refine o_val (v_pickT rfl rfl) rfl ?_
 refine o_val (v_move rfl) rfl ?_
 refine o_want rfl ?_
 refine o_val (v_move rfl) rfl ?_
 refine o_want rfl ?_
 refine o_val (v_T (v_eql rfl rfl) rfl) rfl ?_
 refine o_val (v_pickT rfl rfl) rfl ?_
 refine o_val (v_move rfl) rfl ?_
 refine o_want rfl ?_
 refine o_val (v_move rfl) rfl ?_
 refine o_want rfl ?_
 refine o_val (v_T (v_eql rfl rfl) rfl) rfl ?_
 refine o_val (v_pickT rfl rfl) rfl ?_
 refine o_val (v_move rfl) rfl ?_
 refine o_want rfl ?_
 refine o_val (v_move rfl) rfl ?_
 refine o_want rfl ?_
 refine o_val (v_T (v_eql rfl rfl) rfl) rfl ?_
 refine o_val (v_pickT rfl rfl) rfl ?_
 refine o_val (v_move rfl) rfl ?_
 refine o_want rfl ?_
 refine o_val (v_move rfl) rfl ?_
 refine o_want rfl ?_
 refine o_val (v_T (v_eql rfl rfl) rfl) rfl ?_
 refine o_val (v_pickT rfl rfl) rfl ?_
 refine o_val (v_move rfl) rfl ?_
 refine o_want rfl ?_
 refine o_val (v_move rfl) rfl ?_
 refine o_want rfl ?_
 refine o_val (v_T (v_eql rfl rfl) rfl) rfl ?_
 refine o_val (v_pickT rfl rfl) rfl ?_
 refine o_val (v_assign rfl) rfl ?_
 refine o_nil ?_
 refine thn_n ?_
 refine w_ret ?_
 exact ret_ok (G := []) (res1 rfl) ⟨rfl, rfl⟩ (sub .nil (by repeat first | exact .refl | apply Drop.skip))

set_option maxHeartbeats 4000000 in
set_option maxRecDepth 100000 in
theorem l_room (p : Option Addr) (cap : Nat) (B : List Int) (hB : BitP.Byt B) : Ctr Try.prog 8 [.slice p B.length cap] [RdR U5 p B.length B] (Ret fun v G => v = .bool true ∧ G = [RdR U5 p B.length B]) := by
 refine spec_of [(0, _)] Try.func8 rfl Try.ntmps8 rfl rfl ?_
 intro w0 F
 refine w_seq ?_
 refine w_region ?_
 refine o_val (v_assign rfl) rfl ?_
 refine o_nil ?_
 refine thn_n ?_
 refine w_seq ?_
 refine w_seq ?_
 refine w_region ?_
 refine o_call (l_awake) V.b10  rfl .nil rfl ?_
 rintro _ _ ⟨rfl, rfl⟩
 refine o_val (v_to (v := .bool false) (v_not rfl) rfl) rfl ?_
 refine o_nil ?_
 refine thn_n ?_
 refine w_condF rfl ?_
 refine w_skip ?_
 refine thn_n ?_
 refine w_seq ?_
 refine w_seq ?_
 refine w_region ?_
 refine o_val (v_move rfl) rfl ?_
 refine o_val (v_len (ty' := 0) Try.underlying22 rfl) rfl ?_
 refine o_val (v_gtr rfl rfl) rfl ?_
 refine o_nil ?_
 refine thn_n ?_
 first | refine w_condD rfl (fun h17 => ?_) (fun h17 => ?_) | refine w_cond rfl (fun h17 => ?_) (fun h17 => ?_)
 ·
  refine w_seq ?_
  refine w_region ?_
  refine o_val (v_assign rfl) rfl ?_
  refine o_nil ?_
  refine thn_n ?_
  refine w_ret ?_
  refine (thn_r ?_)
  exact ret_ok (G := [RdR U5 p B.length B]) (res1 rfl) ⟨rfl, rfl⟩ (sub (.cons (by repeat first | exact .head | apply Rem.tail) .nil) (by repeat first | exact .refl | apply Drop.skip))
 ·
  refine w_skip ?_
  refine thn_n ?_
  refine w_seq ?_
  obtain ⟨q, hq⟩ := InfP.Res.ex hB 65536
  refine w_region ?_
  refine o_val (v_move rfl) rfl ?_
  refine o_call (c_all p cap B (RdR U5 p B.length B) (fun _ _ hh => hh) (by omega) hB 65536 (by decide) q hq) V.b11  rfl (.cons (by repeat first | exact .head | apply Rem.tail) .nil) rfl ?_
  rintro _ _ ⟨q1, c1, rfl, rfl⟩
  refine o_val (v_move rfl) rfl ?_
  refine o_val (v_extract rfl rfl) rfl ?_
  refine o_val (v_extract rfl rfl) rfl ?_
  refine o_val (v_extract rfl rfl) rfl ?_
  refine o_val (v_assign rfl) rfl ?_
  refine o_val (v_assign rfl) rfl ?_
  refine o_val (v_assign rfl) rfl ?_
  refine o_nil ?_
  refine thn_n ?_
  rcases (Classical.em (q.2.2 = 0)) with he | he
  ·
   refine w_seq ?_
   refine w_seq ?_
   refine w_region ?_
   refine o_val (v_move rfl) rfl ?_
   refine o_val (v_F (v_neq rfl rfl) (fun h => h he)) rfl ?_
   refine o_nil ?_
   refine thn_n ?_
   refine w_condF rfl ?_
   refine w_skip ?_
   refine thn_n ?_
   refine w_seq ?_
   obtain ⟨hq0, hq1, hq2⟩ := InfP.res_room hB (by decide) hq he
   refine w_region ?_
   refine o_val (v_move rfl) rfl ?_
   refine o_val (v_move rfl) rfl ?_
   refine o_val (v_len (ty' := 0) Try.underlying22 rfl) rfl ?_
   refine o_call (c_all p cap B (RdR U5 p B.length B) (fun _ _ hh => hh) (by omega) hB (q.1.length : Int) (by omega) q hq1) V.b11  rfl (.cons (by repeat first | exact .head | apply Rem.tail) .nil) rfl ?_
   rintro _ _ ⟨q2, c2, rfl, rfl⟩
   refine o_val (v_move rfl) rfl ?_
   refine o_val (v_extract rfl rfl) rfl ?_
   refine o_val (v_extract rfl rfl) rfl ?_
   refine o_val (v_extract rfl rfl) rfl ?_
   refine o_val (v_assign rfl) rfl ?_
   refine o_val (v_assign rfl) rfl ?_
   refine o_val (v_assign rfl) rfl ?_
   refine o_nil ?_
   refine thn_n ?_
   refine w_seq ?_
   refine w_region ?_
   refine o_val (v_move rfl) rfl ?_
   refine o_val (v_move rfl) rfl ?_
   refine o_val (v_len (ty' := 0) Try.underlying22 rfl) rfl ?_
   refine o_val (v_sub rfl rfl (wrapI (by omega) (by omega))) rfl ?_
   refine o_call (c_all p cap B (RdR U5 p B.length B) (fun _ _ hh => hh) (by omega) hB ((q.1.length : Int) - 1) (by omega) (([] : List Int), (0 : Int), (if q.1.length = 0 then (1 : Int) else 6)) hq2) V.b11  rfl (.cons (by repeat first | exact .head | apply Rem.tail) .nil) rfl ?_
   rintro _ _ ⟨q3, c3, rfl, rfl⟩
   refine o_val (v_move rfl) rfl ?_
   refine o_val (v_extract rfl rfl) rfl ?_
   refine o_val (v_extract rfl rfl) rfl ?_
   refine o_val (v_extract rfl rfl) rfl ?_
   refine o_val (v_assign rfl) rfl ?_
   refine o_val (v_assign rfl) rfl ?_
   refine o_val (v_assign rfl) rfl ?_
   refine o_nil ?_
   refine thn_n ?_
   refine w_seq ?_
   refine w_region ?_
   refine o_val (v_assign rfl) rfl ?_
   refine o_nil ?_
   refine thn_n ?_
   refine w_seq ?_
   refine w_seq ?_
   refine w_region ?_
   refine o_val (v_move rfl) rfl ?_
   refine o_val (v_len (ty' := 0) Try.underlying22 rfl) rfl ?_
   refine o_val (v_eql rfl rfl) rfl ?_
   refine o_nil ?_
   refine thn_n ?_
   first | refine w_condD rfl (fun h45 => ?_) (fun h45 => ?_) | refine w_cond rfl (fun h45 => ?_) (fun h45 => ?_)
   ·
    refine w_region ?_
    refine o_val (v_assign rfl) rfl ?_
    refine o_nil ?_
    refine thn_n ?_
    refine w_seq ?_
    refine w_region ?_
    refine o_val (v_move rfl) rfl ?_
    refine o_val (v_T (v_eql rfl rfl) he) rfl ?_
    refine o_val (v_move rfl) rfl ?_
    refine o_want rfl ?_
    refine o_val (v_move rfl) rfl ?_
    refine o_want rfl ?_
    refine o_val (v_move rfl) rfl ?_
    refine o_want rfl ?_
    refine o_val (v_T (v_eql rfl rfl) rfl) rfl ?_
    refine o_val (v_pickT rfl rfl) rfl ?_
    refine o_val (v_move rfl) rfl ?_
    refine o_want rfl ?_
    refine o_val (v_move rfl) rfl ?_
    refine o_want rfl ?_
    refine o_val (v_str (T := 5) Try.underlying22 Try.underlying5 Try.underlying9 rfl (own (by repeat first | exact .head _ | apply List.Mem.tail))) rfl ?_
    refine o_want rfl ?_
    refine o_val (v_move rfl) rfl ?_
    refine o_want rfl ?_
    refine o_val (v_str (T := 5) Try.underlying22 Try.underlying5 Try.underlying9 rfl (own (by repeat first | exact .head _ | apply List.Mem.tail))) rfl ?_
    refine o_want rfl ?_
    refine o_val (v_sself rfl rfl) rfl ?_
    refine o_val (v_pickT rfl rfl) rfl ?_
    refine o_val (v_move rfl) rfl ?_
    refine o_want rfl ?_
    refine o_val (v_move rfl) rfl ?_
    refine o_want rfl ?_
    refine o_val (v_move rfl) rfl ?_
    refine o_want rfl ?_
    refine o_val (v_T (v_eql rfl rfl) (by first | exact if_pos (by omega) | exact if_neg (by omega))) rfl ?_
    refine o_val (v_pickT rfl rfl) rfl ?_
    refine o_val (v_assign rfl) rfl ?_
    refine o_nil ?_
    refine thn_n ?_
    refine w_ret ?_
    exact ret_ok (G := [RdR U5 p B.length B]) (res1 rfl) ⟨rfl, rfl⟩ (sub (.cons (by repeat first | exact .head | apply Rem.tail) .nil) (by repeat first | exact .refl | apply Drop.skip))
   ·
    refine w_skip ?_
    refine thn_n ?_
    refine w_seq ?_
    refine w_region ?_
    refine o_val (v_move rfl) rfl ?_
    refine o_val (v_T (v_eql rfl rfl) he) rfl ?_
    refine o_val (v_move rfl) rfl ?_
    refine o_want rfl ?_
    refine o_val (v_move rfl) rfl ?_
    refine o_want rfl ?_
    refine o_val (v_move rfl) rfl ?_
    refine o_want rfl ?_
    refine o_val (v_T (v_eql rfl rfl) rfl) rfl ?_
    refine o_val (v_pickT rfl rfl) rfl ?_
    refine o_val (v_move rfl) rfl ?_
    refine o_want rfl ?_
    refine o_val (v_move rfl) rfl ?_
    refine o_want rfl ?_
    refine o_val (v_str (T := 5) Try.underlying22 Try.underlying5 Try.underlying9 rfl (own (by repeat first | exact .head _ | apply List.Mem.tail))) rfl ?_
    refine o_want rfl ?_
    refine o_val (v_move rfl) rfl ?_
    refine o_want rfl ?_
    refine o_val (v_str (T := 5) Try.underlying22 Try.underlying5 Try.underlying9 rfl (own (by repeat first | exact .head _ | apply List.Mem.tail))) rfl ?_
    refine o_want rfl ?_
    refine o_val (v_sself rfl rfl) rfl ?_
    refine o_val (v_pickT rfl rfl) rfl ?_
    refine o_val (v_move rfl) rfl ?_
    refine o_want rfl ?_
    refine o_val (v_move rfl) rfl ?_
    refine o_want rfl ?_
    refine o_val (v_move rfl) rfl ?_
    refine o_want rfl ?_
    refine o_val (v_T (v_eql rfl rfl) (by first | exact if_pos (by omega) | exact if_neg (by omega))) rfl ?_
    refine o_val (v_pickT rfl rfl) rfl ?_
    refine o_val (v_assign rfl) rfl ?_
    refine o_nil ?_
    refine thn_n ?_
    refine w_ret ?_
    exact ret_ok (G := [RdR U5 p B.length B]) (res1 rfl) ⟨rfl, rfl⟩ (sub (.cons (by repeat first | exact .head | apply Rem.tail) .nil) (by repeat first | exact .refl | apply Drop.skip))
  ·
   refine w_seq ?_
   refine w_seq ?_
   refine w_region ?_
   refine o_val (v_move rfl) rfl ?_
   refine o_val (v_T (v_neq rfl rfl) he) rfl ?_
   refine o_nil ?_
   refine thn_n ?_
   refine w_condT rfl ?_
   refine w_seq ?_
   refine w_region ?_
   refine o_val (v_assign rfl) rfl ?_
   refine o_nil ?_
   refine thn_n ?_
   refine w_ret ?_
   refine (thn_r ?_)
   exact ret_ok (G := [RdR U5 p B.length B]) (res1 rfl) ⟨rfl, rfl⟩ (sub (.cons (by repeat first | exact .head | apply Rem.tail) .nil) (by repeat first | exact .refl | apply Drop.skip))

set_option maxHeartbeats 4000000 in
set_option maxRecDepth 100000 in
theorem l_cuts (p : Option Addr) (cap : Nat) (B : List Int) (hB : BitP.Byt B) (hcap : B.length ≤ cap) (cu : Int) (hcu : 0 ≤ cu ∧ cu < 65536) (pt : Option Addr) (ct : Nat) (T : List Int) (hT : BitP.Byt T) : Ctr Try.prog 7 [.slice p B.length cap, .int .u16 cu, .slice pt T.length ct] [RdR U5 p B.length B, RdR U5 pt T.length T] (Ret fun v G => v = .bool true ∧ G = [RdR U5 p B.length B, RdR U5 pt T.length T]) := by
 refine spec_of [(0, _), (1, _), (2, _)] Try.func7 rfl Try.ntmps7 rfl rfl ?_
 intro w0 F
 refine w_seq ?_
 refine w_region ?_
 refine o_val (v_assign rfl) rfl ?_
 refine o_nil ?_
 refine thn_n ?_
 refine w_seq ?_
 refine w_seq ?_
 refine w_region ?_
 refine o_call (l_awake) V.b10  rfl .nil rfl ?_
 rintro _ _ ⟨rfl, rfl⟩
 refine o_val (v_to (v := .bool false) (v_not rfl) rfl) rfl ?_
 refine o_nil ?_
 refine thn_n ?_
 refine w_condF rfl ?_
 refine w_skip ?_
 refine thn_n ?_
 rcases (InfP.or3 (B.length ≤ 2000) (T.length ≤ 200)) with ⟨hl1, hm1⟩ | ⟨hl1, hm1⟩ | hl1
 ·
  refine w_seq ?_
  refine w_seq ?_
  refine w_region ?_
  refine o_val (v_move rfl) rfl ?_
  refine o_val (v_len (ty' := 0) Try.underlying22 rfl) rfl ?_
  refine o_val (v_F (v_gtr rfl rfl) (by omega)) rfl ?_
  refine o_val (v_move rfl) rfl ?_
  refine o_want rfl ?_
  refine o_val (v_move rfl) rfl ?_
  refine o_want rfl ?_
  refine o_val (v_len (ty' := 0) Try.underlying22 rfl) rfl ?_
  refine o_want rfl ?_
  refine o_val (v_F (v_gtr rfl rfl) (by omega)) rfl ?_
  refine o_val (v_pickF rfl rfl) rfl ?_
  refine o_nil ?_
  refine thn_n ?_
  refine w_condF rfl ?_
  refine w_skip ?_
  refine thn_n ?_
  refine w_seq ?_
  obtain ⟨q, hq⟩ := InfP.Res.ex hB 65536
  refine w_region ?_
  refine o_val (v_move rfl) rfl ?_
  refine o_call (c_all p cap B (RdR U5 p B.length B) (fun _ _ hh => hh) (by omega) hB 65536 (by decide) q hq) V.b11  rfl (.cons (by repeat first | exact .head | apply Rem.tail) .nil) rfl ?_
  rintro _ _ ⟨q1, c1, rfl, rfl⟩
  refine o_val (v_move rfl) rfl ?_
  refine o_val (v_extract rfl rfl) rfl ?_
  refine o_val (v_extract rfl rfl) rfl ?_
  refine o_val (v_extract rfl rfl) rfl ?_
  refine o_val (v_assign rfl) rfl ?_
  refine o_val (v_assign rfl) rfl ?_
  refine o_val (v_assign rfl) rfl ?_
  refine o_nil ?_
  refine thn_n ?_
  rcases (Classical.em (q.2.2 = 0)) with he | he
  ·
   refine w_seq ?_
   refine w_seq ?_
   refine w_region ?_
   refine o_val (v_move rfl) rfl ?_
   refine o_val (v_F (v_neq rfl rfl) (fun h => h he)) rfl ?_
   refine o_nil ?_
   refine thn_n ?_
   refine w_condF rfl ?_
   refine w_skip ?_
   refine thn_n ?_
   refine w_seq ?_
   obtain ⟨n, hqn, hnl, hn1, hq1, _⟩ := InfP.res_cuts (t := T) (c := 0) hB (by decide) hq he
   rw [hqn]
   have hlt : (B.take n ++ T).length = n + T.length := by rw [List.length_append, List.length_take, Nat.min_eq_left hnl]
   have hBT : BitP.Byt (B.take n ++ T) := fun x hx => by rcases List.mem_append.1 hx with h | h; exact hB x (List.mem_of_mem_take h); exact hT x h
   have hm0 : 0 ≤ cu % (n : Int) := Int.emod_nonneg _ (by omega)
   have hm1 : cu % (n : Int) < n := Int.emod_lt_of_pos _ (by omega)
   obtain ⟨m, hm⟩ : ∃ m : Nat, cu % (n : Int) = (m : Int) := ⟨_, (Int.toNat_of_nonneg hm0).symm⟩
   obtain ⟨_, hqn2, _, _, _, hq2⟩ := InfP.res_cuts (t := T) (c := m) hB (by decide) hq he
   rw [hqn] at hqn2
   obtain rfl := Int.ofNat.inj hqn2
   refine w_region ?_
   refine r_build (U5) [] V.sl22 V.z5 rfl rfl rfl rfl rfl rfl ?_
   intro b35
   refine o_val (v_move rfl) rfl ?_
   refine o_val (v_move rfl) rfl ?_
   refine o_val (v_slice0 n _ V.sl22 rfl ⟨_, rfl⟩ rfl (by omega) (by omega)) rfl ?_
   refine r_append (c := (U5)) V.sl22 V.z5 rfl rfl rfl rfl (by repeat first | exact .head | apply Rem.tail) (Has.take (rdH (fun _ _ h => h) (by repeat first | exact .head _ | apply List.Mem.tail)) n (by omega)) (by omega) rfl ?_
   intro p39 c39
   refine o_val (v_move rfl) rfl ?_
   refine r_append (c := (U5)) V.sl22 V.z5 rfl rfl rfl rfl (by repeat first | exact .head | apply Rem.tail) (by first | exact own mm0 | exact own mm1 | exact own mm2 | exact own mm3 | exact own mm4 | exact own mm5 | exact own mm6 | exact own mm7 | exact own mm8 | exact own mm9 | exact own mm10 | exact own mm11 | exact rdH (fun _ _ h => h) mm0 | exact rdH (fun _ _ h => h) mm1 | exact rdH (fun _ _ h => h) mm2 | exact rdH (fun _ _ h => h) mm3 | exact rdH (fun _ _ h => h) mm4 | exact rdH (fun _ _ h => h) mm5 | exact rdH (fun _ _ h => h) mm6 | exact rdH (fun _ _ h => h) mm7 | exact rdH (fun _ _ h => h) mm8 | exact rdH (fun _ _ h => h) mm9 | exact rdH (fun _ _ h => h) mm10 | exact rdH (fun _ _ h => h) mm11) (by omega) rfl ?_
   intro p41 c41
   rw [show 0 + n + T.length = (B.take n ++ T).length from by rw [hlt, Nat.zero_add]]
   refine o_call (c_all p41 c41 (B.take n ++ T) (Row U5 p41 (B.take n ++ T).length c41 (B.take n ++ T)) (fun _ _ hh => hh.rd) (by omega) hBT 65536 (by decide) q hq1) V.b11  rfl (.cons (by repeat first | exact .head | apply Rem.tail) .nil) rfl ?_
   rintro _ _ ⟨q2, c2, rfl, rfl⟩
   refine o_val (v_move rfl) rfl ?_
   refine o_val (v_extract rfl rfl) rfl ?_
   refine o_val (v_extract rfl rfl) rfl ?_
   refine o_val (v_extract rfl rfl) rfl ?_
   refine o_val (v_assign rfl) rfl ?_
   refine o_val (v_assign rfl) rfl ?_
   refine o_val (v_assign rfl) rfl ?_
   refine o_nil ?_
   refine thn_n ?_
   refine w_seq ?_
   refine w_region ?_
   refine o_val (v_move rfl) rfl ?_
   refine o_val (v_move rfl) rfl ?_
   refine o_val (v_conv V.u47 Try.underlying3 rfl (wrapI (by omega) (by omega))) rfl ?_
   refine o_val (v_move rfl) rfl ?_
   refine o_val (v_rem rfl rfl (by omega) (remI (by omega))) rfl ?_
   rw [hm]
   refine o_val (v_slice0 m _ V.sl22 rfl ⟨_, rfl⟩ rfl (by omega) (by omega)) rfl ?_
   rw [show ((52 : Nat), Value.slice p m cap) = (52, .slice p (B.take m).length cap) from by rw [List.length_take, Nat.min_eq_left (by omega)]]
   refine o_call (c_all p cap (B.take m) (RdR U5 p B.length B) (fun _ _ hh => rd_takeN (by omega) hh) (by rw [List.length_take]; omega) (fun x hx => hB x (List.mem_of_mem_take hx)) 65536 (by decide) (([] : List Int), (0 : Int), (2 : Int)) (hq2 (by omega))) V.b11  rfl (.cons (by repeat first | exact .head | apply Rem.tail) .nil) rfl ?_
   rintro _ _ ⟨q3, c3, rfl, rfl⟩
   refine o_val (v_move rfl) rfl ?_
   refine o_val (v_extract rfl rfl) rfl ?_
   refine o_val (v_extract rfl rfl) rfl ?_
   refine o_val (v_extract rfl rfl) rfl ?_
   refine o_val (v_assign rfl) rfl ?_
   refine o_val (v_assign rfl) rfl ?_
   refine o_val (v_assign rfl) rfl ?_
   refine o_nil ?_
   refine thn_n ?_
   refine w_seq ?_
   refine w_region ?_
   refine o_val (v_move rfl) rfl ?_
   refine o_val (v_T (v_eql rfl rfl) he) rfl ?_
   refine o_val (v_move rfl) rfl ?_
   refine o_want rfl ?_
   refine o_val (v_move rfl) rfl ?_
   refine o_want rfl ?_
   refine o_val (v_move rfl) rfl ?_
   refine o_want rfl ?_
   refine o_val (v_T (v_eql rfl rfl) (by omega)) rfl ?_
   refine o_val (v_pickT rfl rfl) rfl ?_
   refine o_val (v_move rfl) rfl ?_
   refine o_want rfl ?_
   refine o_val (v_move rfl) rfl ?_
   refine o_want rfl ?_
   refine o_val (v_str (T := 5) Try.underlying22 Try.underlying5 Try.underlying9 rfl (own (by repeat first | exact .head _ | apply List.Mem.tail))) rfl ?_
   refine o_want rfl ?_
   refine o_val (v_move rfl) rfl ?_
   refine o_want rfl ?_
   refine o_val (v_str (T := 5) Try.underlying22 Try.underlying5 Try.underlying9 rfl (own (by repeat first | exact .head _ | apply List.Mem.tail))) rfl ?_
   refine o_want rfl ?_
   refine o_val (v_sself rfl rfl) rfl ?_
   refine o_val (v_pickT rfl rfl) rfl ?_
   refine o_val (v_move rfl) rfl ?_
   refine o_want rfl ?_
   refine o_val (v_move rfl) rfl ?_
   refine o_want rfl ?_
   refine o_val (v_T (v_eql rfl rfl) rfl) rfl ?_
   refine o_val (v_pickT rfl rfl) rfl ?_
   refine o_val (v_move rfl) rfl ?_
   refine o_want rfl ?_
   refine o_val (v_move rfl) rfl ?_
   refine o_want rfl ?_
   refine o_val (v_len (ty' := 0) Try.underlying22 rfl) rfl ?_
   refine o_want rfl ?_
   refine o_val (v_T (v_eql rfl rfl) rfl) rfl ?_
   refine o_val (v_pickT rfl rfl) rfl ?_
   refine o_val (v_move rfl) rfl ?_
   refine o_want rfl ?_
   refine o_val (v_move rfl) rfl ?_
   refine o_want rfl ?_
   refine o_val (v_T (v_eql rfl rfl) rfl) rfl ?_
   refine o_val (v_pickT rfl rfl) rfl ?_
   refine o_val (v_assign rfl) rfl ?_
   refine o_nil ?_
   refine thn_n ?_
   refine w_ret ?_
   exact ret_ok (G := [RdR U5 p B.length B, RdR U5 pt T.length T]) (res1 rfl) ⟨rfl, rfl⟩ (sub (.cons (by repeat first | exact .head | apply Rem.tail) (.cons (by repeat first | exact .head | apply Rem.tail) .nil)) (by repeat first | exact .refl | apply Drop.skip))
  ·
   refine w_seq ?_
   refine w_seq ?_
   refine w_region ?_
   refine o_val (v_move rfl) rfl ?_
   refine o_val (v_T (v_neq rfl rfl) he) rfl ?_
   refine o_nil ?_
   refine thn_n ?_
   refine w_condT rfl ?_
   refine w_seq ?_
   refine w_region ?_
   refine o_val (v_assign rfl) rfl ?_
   refine o_nil ?_
   refine thn_n ?_
   refine w_ret ?_
   refine (thn_r ?_)
   exact ret_ok (G := [RdR U5 p B.length B, RdR U5 pt T.length T]) (res1 rfl) ⟨rfl, rfl⟩ (sub (.cons (by repeat first | exact .head | apply Rem.tail) (.cons (by repeat first | exact .head | apply Rem.tail) .nil)) (by repeat first | exact .refl | apply Drop.skip))
 ·
  refine w_seq ?_
  refine w_seq ?_
  refine w_region ?_
  refine o_val (v_move rfl) rfl ?_
  refine o_val (v_len (ty' := 0) Try.underlying22 rfl) rfl ?_
  refine o_val (v_F (v_gtr rfl rfl) (by omega)) rfl ?_
  refine o_val (v_move rfl) rfl ?_
  refine o_want rfl ?_
  refine o_val (v_move rfl) rfl ?_
  refine o_want rfl ?_
  refine o_val (v_len (ty' := 0) Try.underlying22 rfl) rfl ?_
  refine o_want rfl ?_
  refine o_val (v_T (v_gtr rfl rfl) (by omega)) rfl ?_
  refine o_val (v_pickF rfl rfl) rfl ?_
  refine o_nil ?_
  refine thn_n ?_
  refine w_condT rfl ?_
  refine w_seq ?_
  refine w_region ?_
  refine o_val (v_assign rfl) rfl ?_
  refine o_nil ?_
  refine thn_n ?_
  refine w_ret ?_
  refine (thn_r ?_)
  exact ret_ok (G := [RdR U5 p B.length B, RdR U5 pt T.length T]) (res1 rfl) ⟨rfl, rfl⟩ (sub (.cons (by repeat first | exact .head | apply Rem.tail) (.cons (by repeat first | exact .head | apply Rem.tail) .nil)) (by repeat first | exact .refl | apply Drop.skip))
 ·
  refine w_seq ?_
  refine w_seq ?_
  refine w_region ?_
  refine o_val (v_move rfl) rfl ?_
  refine o_val (v_len (ty' := 0) Try.underlying22 rfl) rfl ?_
  refine o_val (v_T (v_gtr rfl rfl) (by omega)) rfl ?_
  refine o_val (v_move rfl) rfl ?_
  refine o_pass rfl rfl rfl ?_
  refine o_pass rfl rfl rfl ?_
  refine o_pass rfl rfl rfl ?_
  refine o_val (v_pickT rfl rfl) rfl ?_
  refine o_nil ?_
  refine thn_n ?_
  refine w_condT rfl ?_
  refine w_seq ?_
  refine w_region ?_
  refine o_val (v_assign rfl) rfl ?_
  refine o_nil ?_
  refine thn_n ?_
  refine w_ret ?_
  refine (thn_r ?_)
  exact ret_ok (G := [RdR U5 p B.length B, RdR U5 pt T.length T]) (res1 rfl) ⟨rfl, rfl⟩ (sub (.cons (by repeat first | exact .head | apply Rem.tail) (.cons (by repeat first | exact .head | apply Rem.tail) .nil)) (by repeat first | exact .refl | apply Drop.skip))
end Go.Proofs.Ytoplcgkafaoafaa

/-
  Steps of the proof: walks of functions that the statement reaches; printed by a program of ours.
-/
import Derived.Test.YtoplcgkafaoafaaM48
namespace Go.Proofs.Ytoplcgkafaoafaa
open Go.Sl 
set_option linter.unusedVariables false
set_option linter.unusedSimpArgs false


theorem c_newJ (p : Option Addr) (cap : Nat) (B : List Int) (R : HProp) (hR : ∀ w0 h, R w0 h → RdR U5 p B.length B w0 h) (hl : B.length < 500000000) (mo : Int) : Ctr Try.prog 13 [.slice p B.length cap, .int .i64 mo] [R] (Ret fun v G => ∃ b bl, v = .pointer (some ⟨b, 0, none⟩) ∧ G = [MJ b bl (B.length : Int) mo B (InfP.newJ mo), R]) := by
  by_cases h : mo < 0
  · rw [InfP.newJ_no h]; exact c_newNo p cap B R hR hl mo h
  · rw [InfP.newJ_ok (by omega)]; exact c_new p cap B R hR hl mo (by omega)
theorem c_doneJt (b bl : Nat) (mo : Int) (B : List Int) (r : InfP.Jt) (sz : Int) (he : InfP.endJ r = true) : Ctr Try.prog 14 [.pointer (some ⟨b, 0, none⟩)] [MJ b bl sz mo B r] (Ret fun v G => v = .bool true ∧ G = [MJ b bl sz mo B r]) := by
  have h := c_doneJ b bl mo B r sz
  rw [he] at h
  exact h
theorem c_stepJt (b bl : Nat) (mo : Int) (B : List Int) (r : InfP.Jt) (sz n : Int) (hl : B.length < 500000000) (hB : BitP.Byt B) (hm : mo < 500000000) (hok : InfP.OkJ B mo r) (he : InfP.endJ r = true) : Ctr Try.prog 15 [.pointer (some ⟨b, 0, none⟩), .int .i64 n] [MJ b bl sz mo B r] (Ret fun v G => v = .bool true ∧ G = [MJ b bl sz mo B r]) := by
  have h := c_stepJ b bl mo B r sz n r hl hB hm hok (.inl ⟨.inr he, rfl⟩)
  rw [he] at h
  exact h


attribute [local irreducible] HuffP.newE HuffP.tk HuffP.ord HuffP.cntL HuffP.words HuffP.mostL InfP.frs InfP.toldC InfP.toldN InfP.toldA InfP.hL InfP.hD InfP.hC InfP.lnGo InfP.told InfP.fixL InfP.codeE InfP.rep InfP.lenE InfP.awayE InfP.sym InfP.alg BitP.numL InfP.coded InfP.begin_ InfP.one InfP.put_ InfP.lnB InfP.dsB InfP.lnM InfP.dsM InfP.outJ InfP.usedJ InfP.errJ InfP.endJ InfP.newJ InfP.StepJ InfP.lenJ

set_option maxHeartbeats 8000000 in
set_option maxRecDepth 100000 in
theorem l_slices (p : Option Addr) (cap : Nat) (B : List Int) (hB : BitP.Byt B) (mo : Int) (ps : Option Addr) (cs : Nat) (S : List Int) : Ctr Try.prog 4 [.slice p B.length cap, .int .i64 mo, .slice ps S.length cs] [RdR U5 p B.length B, RdR I3 ps S.length S] (Ret fun v G => v = .bool true ∧ G = [RdR U5 p B.length B, RdR I3 ps S.length S]) := by
  refine spec_of [(0, _), (1, _), (2, _)] Try.func4 rfl Try.ntmps4 rfl rfl ?_
  intro w0 F
  refine w_seq ?_
  refine w_region ?_
  refine o_val (v_assign rfl) rfl ?_
  refine o_nil ?_
  refine thn_n ?_
  refine w_seq ?_
  refine w_seq ?_
  refine w_region ?_
  refine o_call (l_awake) V.b10  rfl .nil rfl ?_
  rintro _ _ ⟨rfl, rfl⟩
  refine o_val (v_to (v := .bool false) (v_not rfl) rfl) rfl ?_
  refine o_nil ?_
  refine thn_n ?_
  refine w_condF rfl ?_
  refine w_skip ?_
  refine thn_n ?_
  rcases (InfP.or3b (B.length ≤ 2000) (mo ≤ 16384) (S.length ≤ 100)) with ⟨hl1, hm1, hs1⟩ | ⟨hl1, hm1, hs1⟩ | ⟨hl1, hm1⟩ | hl1
  ·
    refine w_seq ?_
    refine w_seq ?_
    refine w_region ?_
    refine o_val (v_move rfl) rfl ?_
    refine o_val (v_len (ty' := 0) Try.underlying22 rfl) rfl ?_
    refine o_val (v_F (v_gtr rfl rfl) (by omega)) rfl ?_
    refine o_val (v_move rfl) rfl ?_
    refine o_want rfl ?_
    refine o_val (v_move rfl) rfl ?_
    refine o_want rfl ?_
    refine o_val (v_F (v_gtr rfl rfl) (by omega)) rfl ?_
    refine o_val (v_pickF rfl rfl) rfl ?_
    refine o_val (v_move rfl) rfl ?_
    refine o_want rfl ?_
    refine o_val (v_move rfl) rfl ?_
    refine o_want rfl ?_
    refine o_val (v_len (ty' := 0) Try.underlying30 rfl) rfl ?_
    refine o_want rfl ?_
    refine o_val (v_F (v_gtr rfl rfl) (by omega)) rfl ?_
    refine o_val (v_pickF rfl rfl) rfl ?_
    refine o_nil ?_
    refine thn_n ?_
    refine w_condF rfl ?_
    refine w_skip ?_
    refine thn_n ?_
    refine w_seq ?_
    obtain ⟨q, hq⟩ := InfP.Res.ex hB mo
    refine w_region ?_
    refine o_val (v_move rfl) rfl ?_
    refine o_val (v_move rfl) rfl ?_
    refine o_call (c_newJ p cap B (RdR U5 p B.length B) (fun _ _ hh => hh) (by omega) mo) V.b13  rfl (.cons (by repeat first | exact .head | apply Rem.tail) .nil) rfl ?_
    rintro _ _ ⟨bm, bl, rfl, rfl⟩
    refine o_val (v_assign rfl) rfl ?_
    refine o_nil ?_
    refine thn_n ?_
    refine w_seq ?_
    refine w_region ?_
    refine o_val (v_move rfl) rfl ?_
    refine o_val (v_move rfl) rfl ?_
    refine o_call (d_inf p cap B (RdR U5 p B.length B) (fun _ _ hh => hh) (by omega) hB mo (by omega) q hq) V.b12  rfl (.cons (by repeat first | exact .head | apply Rem.tail) .nil) rfl ?_
    rintro _ _ ⟨q2, c2, rfl, rfl⟩
    refine o_val (v_move rfl) rfl ?_
    refine o_val (v_extract rfl rfl) rfl ?_
    refine o_val (v_extract rfl rfl) rfl ?_
    refine o_val (v_extract rfl rfl) rfl ?_
    refine o_val (v_assign rfl) rfl ?_
    refine o_val (v_assign rfl) rfl ?_
    refine o_val (v_assign rfl) rfl ?_
    refine o_nil ?_
    refine thn_n ?_
    refine w_seq ?_
    refine w_seq ?_
    refine w_region ?_
    refine o_val (v_move rfl) rfl ?_
    refine o_val (v_to (v := .bool false) (v_eqnil Try.underlying31 rfl rfl) rfl) rfl ?_
    refine o_nil ?_
    refine thn_n ?_
    refine w_condF rfl ?_
    refine w_skip ?_
    refine thn_n ?_
    refine w_seq ?_
    refine w_seq ?_
    refine w_region ?_
    refine o_val (v_assign rfl) rfl ?_
    refine o_nil ?_
    refine thn_n ?_
    refine w_block ?_
    refine w_loop2 (fun (i : Nat) (r : InfP.Jt) => [(2, .slice ps S.length cs), (7, .pointer (some ⟨bm, 0, none⟩)), (8, .slice q2 q.1.length c2), (9, .int .i64 q.2.1), (10, .int .i64 q.2.2), (11, .int .i64 (i : Int))]) (fun (i : Nat) (r : InfP.Jt) => MJ bm bl (B.length : Int) mo B r :: RdR U5 p B.length B :: RdR I3 ps S.length S :: Row U5 q2 q.1.length c2 q.1 :: F) (fun (i : Nat) (r : InfP.Jt) => i ≤ S.length ∧ InfP.Way B mo r) (fun (i : Nat) (r : InfP.Jt) => S.length - i) (i2 (0) (InfP.newJ mo) ?_ (.cons rfl (.cons rfl (.cons rfl (.cons rfl (.cons rfl (.cons rfl (.nil _))))))) (sub (.cons (by repeat first | exact .head | apply Rem.tail) (.cons (by repeat first | exact .head | apply Rem.tail) (.cons (by repeat first | exact .head | apply Rem.tail) (.cons (by repeat first | exact .head | apply Rem.tail) .nil)))) (by repeat first | exact .refl | apply Drop.skip))) ?_
    ·
      exact ⟨Nat.zero_le _, InfP.Way.new B mo⟩
    intro i r
    rintro ⟨hi, hw⟩
    refine w_seq ?_
    refine w_seq ?_
    refine w_region ?_
    refine o_val (v_move rfl) rfl ?_
    refine o_val (v_move rfl) rfl ?_
    refine o_val (v_len (ty' := 0) Try.underlying30 rfl) rfl ?_
    refine o_val (v_lss rfl rfl) rfl ?_
    refine o_nil ?_
    refine thn_n ?_
    first | refine w_condD rfl (fun h44 => ?_) (fun h44 => ?_) | refine w_cond rfl (fun h44 => ?_) (fun h44 => ?_)
    ·
      refine w_skip ?_
      refine thn_n ?_
      refine w_seq ?_
      refine w_block ?_
      refine w_seq ?_
      refine w_region ?_
      refine o_val (v_move rfl) rfl ?_
      refine o_call (c_doneJ bm bl mo B r (B.length : Int)) V.b14  rfl (.cons (by repeat first | exact .head | apply Rem.tail) .nil) rfl ?_
      rintro _ _ ⟨rfl, rfl⟩
      refine o_val (v_assign rfl) rfl ?_
      refine o_nil ?_
      refine thn_n ?_
      refine w_seq ?_
      obtain ⟨r2, hst⟩ := InfP.stepJ_ex hB hw.ok (I3.g S (i : Int))
      have hws := hw.step hB hst
      refine w_region ?_
      refine o_val (v_move rfl) rfl ?_
      refine o_val (v_move rfl) rfl ?_
      refine o_val (v_move rfl) rfl ?_
      refine o_val (r_index (c := (I3)) V.sl30 rfl rfl (by first | exact own mm0 | exact own mm1 | exact own mm2 | exact own mm3 | exact own mm4 | exact own mm5 | exact own mm6 | exact own mm7 | exact own mm8 | exact own mm9 | exact own mm10 | exact own mm11 | exact rdH (fun _ _ h => h) mm0 | exact rdH (fun _ _ h => h) mm1 | exact rdH (fun _ _ h => h) mm2 | exact rdH (fun _ _ h => h) mm3 | exact rdH (fun _ _ h => h) mm4 | exact rdH (fun _ _ h => h) mm5 | exact rdH (fun _ _ h => h) mm6 | exact rdH (fun _ _ h => h) mm7 | exact rdH (fun _ _ h => h) mm8 | exact rdH (fun _ _ h => h) mm9 | exact rdH (fun _ _ h => h) mm10 | exact rdH (fun _ _ h => h) mm11) (by omega) (by omega)) rfl ?_
      refine o_val (r_load (c := (I3)) V.s3 rfl (by first | exact own mm0 | exact own mm1 | exact own mm2 | exact own mm3 | exact own mm4 | exact own mm5 | exact own mm6 | exact own mm7 | exact own mm8 | exact own mm9 | exact own mm10 | exact own mm11 | exact rdH (fun _ _ h => h) mm0 | exact rdH (fun _ _ h => h) mm1 | exact rdH (fun _ _ h => h) mm2 | exact rdH (fun _ _ h => h) mm3 | exact rdH (fun _ _ h => h) mm4 | exact rdH (fun _ _ h => h) mm5 | exact rdH (fun _ _ h => h) mm6 | exact rdH (fun _ _ h => h) mm7 | exact rdH (fun _ _ h => h) mm8 | exact rdH (fun _ _ h => h) mm9 | exact rdH (fun _ _ h => h) mm10 | exact rdH (fun _ _ h => h) mm11) (by omega) (by omega) rfl rfl) rfl ?_
      refine o_call (c_stepJ bm bl mo B r (B.length : Int) (I3.g S (i : Int)) r2 (by omega) hB (by omega) hw.ok hst) V.b15  rfl (.cons (by repeat first | exact .head | apply Rem.tail) .nil) rfl ?_
      rintro _ _ ⟨rfl, rfl⟩
      refine o_val (v_assign rfl) rfl ?_
      refine o_nil ?_
      refine thn_n ?_
      rcases (InfP.jn_or hws) with ⟨hn, he, he2⟩ | ⟨hn, he, he2⟩ | ⟨hn, he, he2⟩ | ⟨hn, he, he2⟩ | ⟨hn, he, he2⟩
      ·
        refine w_seq ?_
        refine w_seq ?_
        rw [he, he2]
        refine w_region ?_
        refine o_val (v_move rfl) rfl ?_
        refine o_val (v_move rfl) rfl ?_
        refine o_call (c_doneJ bm bl mo B r2 (B.length : Int)) V.b14  rfl (.cons (by repeat first | exact .head | apply Rem.tail) .nil) rfl ?_
        rintro _ _ ⟨rfl, rfl⟩
        rw [he2]
        refine o_val (v_to (v := .bool false) (v_neb Try.underlying4 rfl rfl) rfl) rfl ?_
        refine o_val (v_move rfl) rfl ?_
        refine o_want rfl ?_
        refine o_val (v_move rfl) rfl ?_
        refine o_want rfl ?_
        refine o_val (v_move rfl) rfl ?_
        refine o_want rfl ?_
        refine o_val (v_move rfl) rfl ?_
        refine o_want rfl ?_
        refine o_val (v_to (v := .bool false) (v_not rfl) rfl) rfl ?_
        refine o_want rfl ?_
        refine o_val (v_pickT rfl rfl) rfl ?_
        refine o_val (v_pickF rfl rfl) rfl ?_
        refine o_val (v_move rfl) rfl ?_
        refine o_want rfl ?_
        refine o_val (v_move rfl) rfl ?_
        refine o_want rfl ?_
        refine o_val (v_move rfl) rfl ?_
        refine o_want rfl ?_
        refine o_val (r_index (c := (I3)) V.sl30 rfl rfl (by first | exact own mm0 | exact own mm1 | exact own mm2 | exact own mm3 | exact own mm4 | exact own mm5 | exact own mm6 | exact own mm7 | exact own mm8 | exact own mm9 | exact own mm10 | exact own mm11 | exact rdH (fun _ _ h => h) mm0 | exact rdH (fun _ _ h => h) mm1 | exact rdH (fun _ _ h => h) mm2 | exact rdH (fun _ _ h => h) mm3 | exact rdH (fun _ _ h => h) mm4 | exact rdH (fun _ _ h => h) mm5 | exact rdH (fun _ _ h => h) mm6 | exact rdH (fun _ _ h => h) mm7 | exact rdH (fun _ _ h => h) mm8 | exact rdH (fun _ _ h => h) mm9 | exact rdH (fun _ _ h => h) mm10 | exact rdH (fun _ _ h => h) mm11) (by omega) (by omega)) rfl ?_
        refine o_want rfl ?_
        refine o_val (r_load (c := (I3)) V.s3 rfl (by first | exact own mm0 | exact own mm1 | exact own mm2 | exact own mm3 | exact own mm4 | exact own mm5 | exact own mm6 | exact own mm7 | exact own mm8 | exact own mm9 | exact own mm10 | exact own mm11 | exact rdH (fun _ _ h => h) mm0 | exact rdH (fun _ _ h => h) mm1 | exact rdH (fun _ _ h => h) mm2 | exact rdH (fun _ _ h => h) mm3 | exact rdH (fun _ _ h => h) mm4 | exact rdH (fun _ _ h => h) mm5 | exact rdH (fun _ _ h => h) mm6 | exact rdH (fun _ _ h => h) mm7 | exact rdH (fun _ _ h => h) mm8 | exact rdH (fun _ _ h => h) mm9 | exact rdH (fun _ _ h => h) mm10 | exact rdH (fun _ _ h => h) mm11) (by omega) (by omega) rfl rfl) rfl ?_
        refine o_want rfl ?_
        refine o_val (v_T (v_lss rfl rfl) hn) rfl ?_
        refine o_want rfl ?_
        refine o_val (v_move rfl) rfl ?_
        refine o_want rfl ?_
        refine o_val (v_move rfl) rfl ?_
        refine o_want rfl ?_
        refine o_val (v_move rfl) rfl ?_
        refine o_want rfl ?_
        refine o_val (v_to (v := .bool false) (v_neb Try.underlying4 rfl rfl) rfl) rfl ?_
        refine o_want rfl ?_
        refine o_val (v_pickT rfl rfl) rfl ?_
        refine o_val (v_pickF rfl rfl) rfl ?_
        refine o_nil ?_
        refine thn_n ?_
        refine w_condF rfl ?_
        refine w_skip ?_
        refine thn_n ?_
        refine w_seq ?_
        refine w_region ?_
        refine o_val (v_move rfl) rfl ?_
        refine o_val (v_to (v := .bool false) (v_not rfl) rfl) rfl ?_
        refine o_val (v_move rfl) rfl ?_
        refine o_pass rfl rfl rfl ?_
        refine o_pass rfl rfl rfl ?_
        refine o_pass rfl rfl rfl ?_
        refine o_pass rfl rfl rfl ?_
        refine o_pass rfl rfl rfl ?_
        refine o_passU rfl rfl rfl rfl ?_
        refine o_passU rfl rfl rfl rfl ?_
        refine o_passU rfl rfl rfl rfl ?_
        refine o_pass rfl rfl rfl ?_
        refine o_pass rfl rfl rfl ?_
        refine o_passU rfl rfl rfl rfl ?_
        refine o_passU rfl rfl rfl rfl ?_
        refine o_passU rfl rfl rfl rfl ?_
        refine o_pass rfl rfl rfl ?_
        refine o_val (v_pickF rfl rfl) rfl ?_
        refine o_nil ?_
        refine thn_n ?_
        refine w_condF rfl ?_
        refine w_skip ?_
        refine blk_n ?_
        refine thn_n ?_
        refine w_region ?_
        refine o_val (v_move rfl) rfl ?_
        refine o_val (v_add rfl rfl (wrapI (by omega) (by omega))) rfl ?_
        refine o_val (v_assign rfl) rfl ?_
        refine o_nil ?_
        refine j2 (i + 1) (r2) ?_ (.cons rfl (.cons rfl (.cons rfl (.cons rfl (.cons rfl (.cons rfl (.nil _))))))) (sub (.cons (by repeat first | exact .head | apply Rem.tail) (.cons (by repeat first | exact .head | apply Rem.tail) (.cons (by repeat first | exact .head | apply Rem.tail) (.cons (by repeat first | exact .head | apply Rem.tail) .nil)))) (by repeat first | exact .refl | apply Drop.skip))
        exact ⟨⟨by omega, hws.way⟩, by omega⟩
      ·
        refine w_seq ?_
        refine w_seq ?_
        rw [he, he2]
        refine w_region ?_
        refine o_val (v_move rfl) rfl ?_
        refine o_val (v_move rfl) rfl ?_
        refine o_call (c_doneJ bm bl mo B r2 (B.length : Int)) V.b14  rfl (.cons (by repeat first | exact .head | apply Rem.tail) .nil) rfl ?_
        rintro _ _ ⟨rfl, rfl⟩
        rw [he2]
        refine o_val (v_to (v := .bool false) (v_neb Try.underlying4 rfl rfl) rfl) rfl ?_
        refine o_val (v_move rfl) rfl ?_
        refine o_want rfl ?_
        refine o_val (v_move rfl) rfl ?_
        refine o_want rfl ?_
        refine o_val (v_move rfl) rfl ?_
        refine o_want rfl ?_
        refine o_val (v_move rfl) rfl ?_
        refine o_want rfl ?_
        refine o_val (v_to (v := .bool false) (v_not rfl) rfl) rfl ?_
        refine o_want rfl ?_
        refine o_val (v_pickT rfl rfl) rfl ?_
        refine o_val (v_pickF rfl rfl) rfl ?_
        refine o_val (v_move rfl) rfl ?_
        refine o_want rfl ?_
        refine o_val (v_move rfl) rfl ?_
        refine o_want rfl ?_
        refine o_val (v_move rfl) rfl ?_
        refine o_want rfl ?_
        refine o_val (r_index (c := (I3)) V.sl30 rfl rfl (by first | exact own mm0 | exact own mm1 | exact own mm2 | exact own mm3 | exact own mm4 | exact own mm5 | exact own mm6 | exact own mm7 | exact own mm8 | exact own mm9 | exact own mm10 | exact own mm11 | exact rdH (fun _ _ h => h) mm0 | exact rdH (fun _ _ h => h) mm1 | exact rdH (fun _ _ h => h) mm2 | exact rdH (fun _ _ h => h) mm3 | exact rdH (fun _ _ h => h) mm4 | exact rdH (fun _ _ h => h) mm5 | exact rdH (fun _ _ h => h) mm6 | exact rdH (fun _ _ h => h) mm7 | exact rdH (fun _ _ h => h) mm8 | exact rdH (fun _ _ h => h) mm9 | exact rdH (fun _ _ h => h) mm10 | exact rdH (fun _ _ h => h) mm11) (by omega) (by omega)) rfl ?_
        refine o_want rfl ?_
        refine o_val (r_load (c := (I3)) V.s3 rfl (by first | exact own mm0 | exact own mm1 | exact own mm2 | exact own mm3 | exact own mm4 | exact own mm5 | exact own mm6 | exact own mm7 | exact own mm8 | exact own mm9 | exact own mm10 | exact own mm11 | exact rdH (fun _ _ h => h) mm0 | exact rdH (fun _ _ h => h) mm1 | exact rdH (fun _ _ h => h) mm2 | exact rdH (fun _ _ h => h) mm3 | exact rdH (fun _ _ h => h) mm4 | exact rdH (fun _ _ h => h) mm5 | exact rdH (fun _ _ h => h) mm6 | exact rdH (fun _ _ h => h) mm7 | exact rdH (fun _ _ h => h) mm8 | exact rdH (fun _ _ h => h) mm9 | exact rdH (fun _ _ h => h) mm10 | exact rdH (fun _ _ h => h) mm11) (by omega) (by omega) rfl rfl) rfl ?_
        refine o_want rfl ?_
        refine o_val (v_F (v_lss rfl rfl) hn) rfl ?_
        refine o_want rfl ?_
        refine o_val (v_move rfl) rfl ?_
        refine o_pass rfl rfl rfl ?_
        refine o_pass rfl rfl rfl ?_
        refine o_pass rfl rfl rfl ?_
        refine o_want rfl ?_
        refine o_val (v_pickF rfl rfl) rfl ?_
        refine o_val (v_pickF rfl rfl) rfl ?_
        refine o_nil ?_
        refine thn_n ?_
        refine w_condF rfl ?_
        refine w_skip ?_
        refine thn_n ?_
        refine w_seq ?_
        refine w_region ?_
        refine o_val (v_move rfl) rfl ?_
        refine o_val (v_to (v := .bool false) (v_not rfl) rfl) rfl ?_
        refine o_val (v_move rfl) rfl ?_
        refine o_pass rfl rfl rfl ?_
        refine o_pass rfl rfl rfl ?_
        refine o_pass rfl rfl rfl ?_
        refine o_pass rfl rfl rfl ?_
        refine o_pass rfl rfl rfl ?_
        refine o_passU rfl rfl rfl rfl ?_
        refine o_passU rfl rfl rfl rfl ?_
        refine o_passU rfl rfl rfl rfl ?_
        refine o_pass rfl rfl rfl ?_
        refine o_pass rfl rfl rfl ?_
        refine o_passU rfl rfl rfl rfl ?_
        refine o_passU rfl rfl rfl rfl ?_
        refine o_passU rfl rfl rfl rfl ?_
        refine o_pass rfl rfl rfl ?_
        refine o_val (v_pickF rfl rfl) rfl ?_
        refine o_nil ?_
        refine thn_n ?_
        refine w_condF rfl ?_
        refine w_skip ?_
        refine blk_n ?_
        refine thn_n ?_
        refine w_region ?_
        refine o_val (v_move rfl) rfl ?_
        refine o_val (v_add rfl rfl (wrapI (by omega) (by omega))) rfl ?_
        refine o_val (v_assign rfl) rfl ?_
        refine o_nil ?_
        refine j2 (i + 1) (r2) ?_ (.cons rfl (.cons rfl (.cons rfl (.cons rfl (.cons rfl (.cons rfl (.nil _))))))) (sub (.cons (by repeat first | exact .head | apply Rem.tail) (.cons (by repeat first | exact .head | apply Rem.tail) (.cons (by repeat first | exact .head | apply Rem.tail) (.cons (by repeat first | exact .head | apply Rem.tail) .nil)))) (by repeat first | exact .refl | apply Drop.skip))
        exact ⟨⟨by omega, hws.way⟩, by omega⟩
      ·
        refine w_seq ?_
        refine w_seq ?_
        rw [he, he2]
        refine w_region ?_
        refine o_val (v_move rfl) rfl ?_
        refine o_val (v_move rfl) rfl ?_
        refine o_call (c_doneJ bm bl mo B r2 (B.length : Int)) V.b14  rfl (.cons (by repeat first | exact .head | apply Rem.tail) .nil) rfl ?_
        rintro _ _ ⟨rfl, rfl⟩
        rw [he2]
        refine o_val (v_to (v := .bool false) (v_neb Try.underlying4 rfl rfl) rfl) rfl ?_
        refine o_val (v_move rfl) rfl ?_
        refine o_want rfl ?_
        refine o_val (v_move rfl) rfl ?_
        refine o_want rfl ?_
        refine o_val (v_move rfl) rfl ?_
        refine o_pass rfl rfl rfl ?_
        refine o_pass rfl rfl rfl ?_
        refine o_want rfl ?_
        refine o_val (v_pickF rfl rfl) rfl ?_
        refine o_val (v_pickF rfl rfl) rfl ?_
        refine o_val (v_move rfl) rfl ?_
        refine o_want rfl ?_
        refine o_val (v_move rfl) rfl ?_
        refine o_want rfl ?_
        refine o_val (v_move rfl) rfl ?_
        refine o_want rfl ?_
        refine o_val (r_index (c := (I3)) V.sl30 rfl rfl (by first | exact own mm0 | exact own mm1 | exact own mm2 | exact own mm3 | exact own mm4 | exact own mm5 | exact own mm6 | exact own mm7 | exact own mm8 | exact own mm9 | exact own mm10 | exact own mm11 | exact rdH (fun _ _ h => h) mm0 | exact rdH (fun _ _ h => h) mm1 | exact rdH (fun _ _ h => h) mm2 | exact rdH (fun _ _ h => h) mm3 | exact rdH (fun _ _ h => h) mm4 | exact rdH (fun _ _ h => h) mm5 | exact rdH (fun _ _ h => h) mm6 | exact rdH (fun _ _ h => h) mm7 | exact rdH (fun _ _ h => h) mm8 | exact rdH (fun _ _ h => h) mm9 | exact rdH (fun _ _ h => h) mm10 | exact rdH (fun _ _ h => h) mm11) (by omega) (by omega)) rfl ?_
        refine o_want rfl ?_
        refine o_val (r_load (c := (I3)) V.s3 rfl (by first | exact own mm0 | exact own mm1 | exact own mm2 | exact own mm3 | exact own mm4 | exact own mm5 | exact own mm6 | exact own mm7 | exact own mm8 | exact own mm9 | exact own mm10 | exact own mm11 | exact rdH (fun _ _ h => h) mm0 | exact rdH (fun _ _ h => h) mm1 | exact rdH (fun _ _ h => h) mm2 | exact rdH (fun _ _ h => h) mm3 | exact rdH (fun _ _ h => h) mm4 | exact rdH (fun _ _ h => h) mm5 | exact rdH (fun _ _ h => h) mm6 | exact rdH (fun _ _ h => h) mm7 | exact rdH (fun _ _ h => h) mm8 | exact rdH (fun _ _ h => h) mm9 | exact rdH (fun _ _ h => h) mm10 | exact rdH (fun _ _ h => h) mm11) (by omega) (by omega) rfl rfl) rfl ?_
        refine o_want rfl ?_
        refine o_val (v_T (v_lss rfl rfl) hn) rfl ?_
        refine o_want rfl ?_
        refine o_val (v_move rfl) rfl ?_
        refine o_want rfl ?_
        refine o_val (v_move rfl) rfl ?_
        refine o_want rfl ?_
        refine o_val (v_move rfl) rfl ?_
        refine o_want rfl ?_
        refine o_val (v_to (v := .bool false) (v_neb Try.underlying4 rfl rfl) rfl) rfl ?_
        refine o_want rfl ?_
        refine o_val (v_pickT rfl rfl) rfl ?_
        refine o_val (v_pickF rfl rfl) rfl ?_
        refine o_nil ?_
        refine thn_n ?_
        refine w_condF rfl ?_
        refine w_skip ?_
        refine thn_n ?_
        refine w_seq ?_
        refine w_region ?_
        refine o_val (v_move rfl) rfl ?_
        refine o_val (v_to (v := .bool true) (v_not rfl) rfl) rfl ?_
        refine o_val (v_move rfl) rfl ?_
        refine o_want rfl ?_
        refine o_val (v_move rfl) rfl ?_
        refine o_want rfl ?_
        refine o_call (c_outJ bm bl mo B r2 (B.length : Int) (by omega) hws.way.ok) V.b16  rfl (.cons (by repeat first | exact .head | apply Rem.tail) .nil) rfl ?_
        rintro _ _ ⟨q82, c82, rfl, rfl⟩
        refine o_want rfl ?_
        refine o_val (v_len (ty' := 0) Try.underlying22 rfl) rfl ?_
        refine o_want rfl ?_
        refine o_val (v_F (v_gtr rfl rfl) (by rw [(InfP.outJ_no he2).1]; decide)) rfl ?_
        refine o_want rfl ?_
        refine o_val (v_move rfl) rfl ?_
        refine o_want rfl ?_
        refine o_val (v_move rfl) rfl ?_
        refine o_want rfl ?_
        refine o_call (c_errJ bm bl mo B r2 (B.length : Int)) V.b17  rfl (.cons (by repeat first | exact .head | apply Rem.tail) .nil) rfl ?_
        rintro _ _ ⟨rfl, rfl⟩
        refine o_want rfl ?_
        refine o_val (v_F (v_neq rfl rfl) (fun h => h (InfP.outJ_no he2).2.1)) rfl ?_
        refine o_want rfl ?_
        refine o_val (v_pickF rfl rfl) rfl ?_
        refine o_want rfl ?_
        refine o_val (v_move rfl) rfl ?_
        refine o_want rfl ?_
        refine o_val (v_move rfl) rfl ?_
        refine o_want rfl ?_
        refine o_call (c_usedJ bm bl mo B r2 (by omega) (by omega) hws.way.ok) V.b18  rfl (.cons (by repeat first | exact .head | apply Rem.tail) .nil) rfl ?_
        rintro _ _ ⟨rfl, rfl⟩
        refine o_want rfl ?_
        refine o_val (v_F (v_neq rfl rfl) (fun h => h (InfP.outJ_no he2).2.2)) rfl ?_
        refine o_want rfl ?_
        refine o_val (v_pickF rfl rfl) rfl ?_
        refine o_val (v_pickT rfl rfl) rfl ?_
        refine o_nil ?_
        refine thn_n ?_
        refine w_condF rfl ?_
        refine w_skip ?_
        refine blk_n ?_
        refine thn_n ?_
        refine w_region ?_
        refine o_val (v_move rfl) rfl ?_
        refine o_val (v_add rfl rfl (wrapI (by omega) (by omega))) rfl ?_
        refine o_val (v_assign rfl) rfl ?_
        refine o_nil ?_
        refine j2 (i + 1) (r2) ?_ (.cons rfl (.cons rfl (.cons rfl (.cons rfl (.cons rfl (.cons rfl (.nil _))))))) (sub (.cons (by repeat first | exact .head | apply Rem.tail) (.cons (by repeat first | exact .head | apply Rem.tail) (.cons (by repeat first | exact .head | apply Rem.tail) (.cons (by repeat first | exact .head | apply Rem.tail) .nil)))) (by repeat first | exact .refl | apply Drop.skip))
        exact ⟨⟨by omega, hws.way⟩, by omega⟩
      ·
        refine w_seq ?_
        refine w_seq ?_
        rw [he, he2]
        refine w_region ?_
        refine o_val (v_move rfl) rfl ?_
        refine o_val (v_move rfl) rfl ?_
        refine o_call (c_doneJ bm bl mo B r2 (B.length : Int)) V.b14  rfl (.cons (by repeat first | exact .head | apply Rem.tail) .nil) rfl ?_
        rintro _ _ ⟨rfl, rfl⟩
        rw [he2]
        refine o_val (v_to (v := .bool false) (v_neb Try.underlying4 rfl rfl) rfl) rfl ?_
        refine o_val (v_move rfl) rfl ?_
        refine o_want rfl ?_
        refine o_val (v_move rfl) rfl ?_
        refine o_want rfl ?_
        refine o_val (v_move rfl) rfl ?_
        refine o_pass rfl rfl rfl ?_
        refine o_pass rfl rfl rfl ?_
        refine o_want rfl ?_
        refine o_val (v_pickF rfl rfl) rfl ?_
        refine o_val (v_pickF rfl rfl) rfl ?_
        refine o_val (v_move rfl) rfl ?_
        refine o_want rfl ?_
        refine o_val (v_move rfl) rfl ?_
        refine o_want rfl ?_
        refine o_val (v_move rfl) rfl ?_
        refine o_want rfl ?_
        refine o_val (r_index (c := (I3)) V.sl30 rfl rfl (by first | exact own mm0 | exact own mm1 | exact own mm2 | exact own mm3 | exact own mm4 | exact own mm5 | exact own mm6 | exact own mm7 | exact own mm8 | exact own mm9 | exact own mm10 | exact own mm11 | exact rdH (fun _ _ h => h) mm0 | exact rdH (fun _ _ h => h) mm1 | exact rdH (fun _ _ h => h) mm2 | exact rdH (fun _ _ h => h) mm3 | exact rdH (fun _ _ h => h) mm4 | exact rdH (fun _ _ h => h) mm5 | exact rdH (fun _ _ h => h) mm6 | exact rdH (fun _ _ h => h) mm7 | exact rdH (fun _ _ h => h) mm8 | exact rdH (fun _ _ h => h) mm9 | exact rdH (fun _ _ h => h) mm10 | exact rdH (fun _ _ h => h) mm11) (by omega) (by omega)) rfl ?_
        refine o_want rfl ?_
        refine o_val (r_load (c := (I3)) V.s3 rfl (by first | exact own mm0 | exact own mm1 | exact own mm2 | exact own mm3 | exact own mm4 | exact own mm5 | exact own mm6 | exact own mm7 | exact own mm8 | exact own mm9 | exact own mm10 | exact own mm11 | exact rdH (fun _ _ h => h) mm0 | exact rdH (fun _ _ h => h) mm1 | exact rdH (fun _ _ h => h) mm2 | exact rdH (fun _ _ h => h) mm3 | exact rdH (fun _ _ h => h) mm4 | exact rdH (fun _ _ h => h) mm5 | exact rdH (fun _ _ h => h) mm6 | exact rdH (fun _ _ h => h) mm7 | exact rdH (fun _ _ h => h) mm8 | exact rdH (fun _ _ h => h) mm9 | exact rdH (fun _ _ h => h) mm10 | exact rdH (fun _ _ h => h) mm11) (by omega) (by omega) rfl rfl) rfl ?_
        refine o_want rfl ?_
        refine o_val (v_F (v_lss rfl rfl) hn) rfl ?_
        refine o_want rfl ?_
        refine o_val (v_move rfl) rfl ?_
        refine o_pass rfl rfl rfl ?_
        refine o_pass rfl rfl rfl ?_
        refine o_pass rfl rfl rfl ?_
        refine o_want rfl ?_
        refine o_val (v_pickF rfl rfl) rfl ?_
        refine o_val (v_pickF rfl rfl) rfl ?_
        refine o_nil ?_
        refine thn_n ?_
        refine w_condF rfl ?_
        refine w_skip ?_
        refine thn_n ?_
        refine w_seq ?_
        refine w_region ?_
        refine o_val (v_move rfl) rfl ?_
        refine o_val (v_to (v := .bool false) (v_not rfl) rfl) rfl ?_
        refine o_val (v_move rfl) rfl ?_
        refine o_pass rfl rfl rfl ?_
        refine o_pass rfl rfl rfl ?_
        refine o_pass rfl rfl rfl ?_
        refine o_pass rfl rfl rfl ?_
        refine o_pass rfl rfl rfl ?_
        refine o_passU rfl rfl rfl rfl ?_
        refine o_passU rfl rfl rfl rfl ?_
        refine o_passU rfl rfl rfl rfl ?_
        refine o_pass rfl rfl rfl ?_
        refine o_pass rfl rfl rfl ?_
        refine o_passU rfl rfl rfl rfl ?_
        refine o_passU rfl rfl rfl rfl ?_
        refine o_passU rfl rfl rfl rfl ?_
        refine o_pass rfl rfl rfl ?_
        refine o_val (v_pickF rfl rfl) rfl ?_
        refine o_nil ?_
        refine thn_n ?_
        refine w_condF rfl ?_
        refine w_skip ?_
        refine blk_n ?_
        refine thn_n ?_
        refine w_region ?_
        refine o_val (v_move rfl) rfl ?_
        refine o_val (v_add rfl rfl (wrapI (by omega) (by omega))) rfl ?_
        refine o_val (v_assign rfl) rfl ?_
        refine o_nil ?_
        refine j2 (i + 1) (r2) ?_ (.cons rfl (.cons rfl (.cons rfl (.cons rfl (.cons rfl (.cons rfl (.nil _))))))) (sub (.cons (by repeat first | exact .head | apply Rem.tail) (.cons (by repeat first | exact .head | apply Rem.tail) (.cons (by repeat first | exact .head | apply Rem.tail) (.cons (by repeat first | exact .head | apply Rem.tail) .nil)))) (by repeat first | exact .refl | apply Drop.skip))
        exact ⟨⟨by omega, hws.way⟩, by omega⟩
      ·
        refine w_seq ?_
        refine w_seq ?_
        rw [he, he2]
        refine w_region ?_
        refine o_val (v_move rfl) rfl ?_
        refine o_val (v_move rfl) rfl ?_
        refine o_call (c_doneJ bm bl mo B r2 (B.length : Int)) V.b14  rfl (.cons (by repeat first | exact .head | apply Rem.tail) .nil) rfl ?_
        rintro _ _ ⟨rfl, rfl⟩
        rw [he2]
        refine o_val (v_to (v := .bool false) (v_neb Try.underlying4 rfl rfl) rfl) rfl ?_
        refine o_val (v_move rfl) rfl ?_
        refine o_want rfl ?_
        refine o_val (v_move rfl) rfl ?_
        refine o_want rfl ?_
        refine o_val (v_move rfl) rfl ?_
        refine o_pass rfl rfl rfl ?_
        refine o_pass rfl rfl rfl ?_
        refine o_want rfl ?_
        refine o_val (v_pickF rfl rfl) rfl ?_
        refine o_val (v_pickF rfl rfl) rfl ?_
        refine o_val (v_move rfl) rfl ?_
        refine o_want rfl ?_
        refine o_val (v_move rfl) rfl ?_
        refine o_want rfl ?_
        refine o_val (v_move rfl) rfl ?_
        refine o_want rfl ?_
        refine o_val (r_index (c := (I3)) V.sl30 rfl rfl (by first | exact own mm0 | exact own mm1 | exact own mm2 | exact own mm3 | exact own mm4 | exact own mm5 | exact own mm6 | exact own mm7 | exact own mm8 | exact own mm9 | exact own mm10 | exact own mm11 | exact rdH (fun _ _ h => h) mm0 | exact rdH (fun _ _ h => h) mm1 | exact rdH (fun _ _ h => h) mm2 | exact rdH (fun _ _ h => h) mm3 | exact rdH (fun _ _ h => h) mm4 | exact rdH (fun _ _ h => h) mm5 | exact rdH (fun _ _ h => h) mm6 | exact rdH (fun _ _ h => h) mm7 | exact rdH (fun _ _ h => h) mm8 | exact rdH (fun _ _ h => h) mm9 | exact rdH (fun _ _ h => h) mm10 | exact rdH (fun _ _ h => h) mm11) (by omega) (by omega)) rfl ?_
        refine o_want rfl ?_
        refine o_val (r_load (c := (I3)) V.s3 rfl (by first | exact own mm0 | exact own mm1 | exact own mm2 | exact own mm3 | exact own mm4 | exact own mm5 | exact own mm6 | exact own mm7 | exact own mm8 | exact own mm9 | exact own mm10 | exact own mm11 | exact rdH (fun _ _ h => h) mm0 | exact rdH (fun _ _ h => h) mm1 | exact rdH (fun _ _ h => h) mm2 | exact rdH (fun _ _ h => h) mm3 | exact rdH (fun _ _ h => h) mm4 | exact rdH (fun _ _ h => h) mm5 | exact rdH (fun _ _ h => h) mm6 | exact rdH (fun _ _ h => h) mm7 | exact rdH (fun _ _ h => h) mm8 | exact rdH (fun _ _ h => h) mm9 | exact rdH (fun _ _ h => h) mm10 | exact rdH (fun _ _ h => h) mm11) (by omega) (by omega) rfl rfl) rfl ?_
        refine o_want rfl ?_
        refine o_val (v_F (v_lss rfl rfl) hn) rfl ?_
        refine o_want rfl ?_
        refine o_val (v_move rfl) rfl ?_
        refine o_pass rfl rfl rfl ?_
        refine o_pass rfl rfl rfl ?_
        refine o_pass rfl rfl rfl ?_
        refine o_want rfl ?_
        refine o_val (v_pickF rfl rfl) rfl ?_
        refine o_val (v_pickF rfl rfl) rfl ?_
        refine o_nil ?_
        refine thn_n ?_
        refine w_condF rfl ?_
        refine w_skip ?_
        refine thn_n ?_
        refine w_seq ?_
        refine w_region ?_
        refine o_val (v_move rfl) rfl ?_
        refine o_val (v_to (v := .bool true) (v_not rfl) rfl) rfl ?_
        refine o_val (v_move rfl) rfl ?_
        refine o_want rfl ?_
        refine o_val (v_move rfl) rfl ?_
        refine o_want rfl ?_
        refine o_call (c_outJ bm bl mo B r2 (B.length : Int) (by omega) hws.way.ok) V.b16  rfl (.cons (by repeat first | exact .head | apply Rem.tail) .nil) rfl ?_
        rintro _ _ ⟨q82, c82, rfl, rfl⟩
        refine o_want rfl ?_
        refine o_val (v_len (ty' := 0) Try.underlying22 rfl) rfl ?_
        refine o_want rfl ?_
        refine o_val (v_F (v_gtr rfl rfl) (by rw [(InfP.outJ_no he2).1]; decide)) rfl ?_
        refine o_want rfl ?_
        refine o_val (v_move rfl) rfl ?_
        refine o_want rfl ?_
        refine o_val (v_move rfl) rfl ?_
        refine o_want rfl ?_
        refine o_call (c_errJ bm bl mo B r2 (B.length : Int)) V.b17  rfl (.cons (by repeat first | exact .head | apply Rem.tail) .nil) rfl ?_
        rintro _ _ ⟨rfl, rfl⟩
        refine o_want rfl ?_
        refine o_val (v_F (v_neq rfl rfl) (fun h => h (InfP.outJ_no he2).2.1)) rfl ?_
        refine o_want rfl ?_
        refine o_val (v_pickF rfl rfl) rfl ?_
        refine o_want rfl ?_
        refine o_val (v_move rfl) rfl ?_
        refine o_want rfl ?_
        refine o_val (v_move rfl) rfl ?_
        refine o_want rfl ?_
        refine o_call (c_usedJ bm bl mo B r2 (by omega) (by omega) hws.way.ok) V.b18  rfl (.cons (by repeat first | exact .head | apply Rem.tail) .nil) rfl ?_
        rintro _ _ ⟨rfl, rfl⟩
        refine o_want rfl ?_
        refine o_val (v_F (v_neq rfl rfl) (fun h => h (InfP.outJ_no he2).2.2)) rfl ?_
        refine o_want rfl ?_
        refine o_val (v_pickF rfl rfl) rfl ?_
        refine o_val (v_pickT rfl rfl) rfl ?_
        refine o_nil ?_
        refine thn_n ?_
        refine w_condF rfl ?_
        refine w_skip ?_
        refine blk_n ?_
        refine thn_n ?_
        refine w_region ?_
        refine o_val (v_move rfl) rfl ?_
        refine o_val (v_add rfl rfl (wrapI (by omega) (by omega))) rfl ?_
        refine o_val (v_assign rfl) rfl ?_
        refine o_nil ?_
        refine j2 (i + 1) (r2) ?_ (.cons rfl (.cons rfl (.cons rfl (.cons rfl (.cons rfl (.cons rfl (.nil _))))))) (sub (.cons (by repeat first | exact .head | apply Rem.tail) (.cons (by repeat first | exact .head | apply Rem.tail) (.cons (by repeat first | exact .head | apply Rem.tail) (.cons (by repeat first | exact .head | apply Rem.tail) .nil)))) (by repeat first | exact .refl | apply Drop.skip))
        exact ⟨⟨by omega, hws.way⟩, by omega⟩
    ·
      refine w_exit ?_
      refine thn_e ?_
      refine thn_e ?_
      refine blk_x ?_
      refine thn_n ?_
      refine w_seq ?_
      refine w_seq ?_
      refine w_region ?_
      refine o_val (v_assign rfl) rfl ?_
      refine o_nil ?_
      refine thn_n ?_
      refine w_block ?_
      refine w_loop2 (fun (i : Nat) (r : InfP.Jt) => [(7, .pointer (some ⟨bm, 0, none⟩)), (8, .slice q2 q.1.length c2), (9, .int .i64 q.2.1), (10, .int .i64 q.2.2), (14, .int .i64 (i : Int))]) (fun (i : Nat) (r : InfP.Jt) => MJ bm bl (B.length : Int) mo B r :: RdR U5 p B.length B :: RdR I3 ps S.length S :: Row U5 q2 q.1.length c2 q.1 :: F) (fun (i : Nat) (r : InfP.Jt) => i ≤ 32768 ∧ InfP.Way B mo r ∧ (InfP.endJ r = true ∨ i ≤ InfP.lenJ r)) (fun (i : Nat) (r : InfP.Jt) => 32768 - i) (i2 (0) (r) ?_ (.cons rfl (.cons rfl (.cons rfl (.cons rfl (.cons rfl (.nil _)))))) (sub (.cons (by repeat first | exact .head | apply Rem.tail) (.cons (by repeat first | exact .head | apply Rem.tail) (.cons (by repeat first | exact .head | apply Rem.tail) (.cons (by repeat first | exact .head | apply Rem.tail) .nil)))) (by repeat first | exact .refl | apply Drop.skip))) ?_
      ·
        exact ⟨Nat.zero_le _, hw, .inr (Nat.zero_le _)⟩
      intro i r
      rintro ⟨hi0, hw, hle⟩
      rcases (InfP.il_or i r) with ⟨hi, he⟩ | ⟨hi, he⟩ | hi
      ·
        refine w_seq ?_
        refine w_seq ?_
        refine w_region ?_
        refine o_val (v_move rfl) rfl ?_
        refine o_val (v_T (v_lss rfl rfl) (by omega)) rfl ?_
        refine o_val (v_move rfl) rfl ?_
        refine o_want rfl ?_
        refine o_val (v_move rfl) rfl ?_
        refine o_want rfl ?_
        refine o_call (c_doneJ bm bl mo B r (B.length : Int)) V.b14  rfl (.cons (by repeat first | exact .head | apply Rem.tail) .nil) rfl ?_
        rintro _ _ ⟨rfl, rfl⟩
        rw [he]
        refine o_want rfl ?_
        refine o_val (v_to (v := .bool true) (v_not rfl) rfl) rfl ?_
        refine o_val (v_pickT rfl rfl) rfl ?_
        refine o_nil ?_
        refine thn_n ?_
        refine w_condT rfl ?_
        refine w_skip ?_
        refine thn_n ?_
        refine w_seq ?_
        refine w_block ?_
        obtain ⟨r2, hst⟩ := InfP.stepJ_ex hB hw.ok (1 + (i : Int) % 7)
        have hws := hw.step hB hst
        refine w_region ?_
        refine o_val (v_move rfl) rfl ?_
        refine o_val (v_move rfl) rfl ?_
        refine o_val (v_rem rfl rfl (by omega) (remI (by omega))) rfl ?_
        refine o_val (v_add rfl rfl (wrapI (by omega) (by omega))) rfl ?_
        refine o_call (c_stepJ bm bl mo B r (B.length : Int) (1 + (i : Int) % 7) r2 (by omega) hB (by omega) hw.ok hst) V.b15  rfl (.cons (by repeat first | exact .head | apply Rem.tail) .nil) rfl ?_
        rintro _ _ ⟨rfl, rfl⟩
        refine o_nil ?_
        refine blk_n ?_
        refine thn_n ?_
        refine w_region ?_
        refine o_val (v_move rfl) rfl ?_
        refine o_val (v_add rfl rfl (wrapI (by omega) (by omega))) rfl ?_
        refine o_val (v_assign rfl) rfl ?_
        refine o_nil ?_
        refine j2 (i + 1) (r2) ?_ (.cons rfl (.cons rfl (.cons rfl (.cons rfl (.cons rfl (.nil _)))))) (sub (.cons (by repeat first | exact .head | apply Rem.tail) (.cons (by repeat first | exact .head | apply Rem.tail) (.cons (by repeat first | exact .head | apply Rem.tail) (.cons (by repeat first | exact .head | apply Rem.tail) .nil)))) (by repeat first | exact .refl | apply Drop.skip))
        exact ⟨⟨by omega, hws.way, InfP.le_of hws hle he (by omega)⟩, by omega⟩
      ·
        refine w_seq ?_
        refine w_seq ?_
        refine w_region ?_
        refine o_val (v_move rfl) rfl ?_
        refine o_val (v_T (v_lss rfl rfl) (by omega)) rfl ?_
        refine o_val (v_move rfl) rfl ?_
        refine o_want rfl ?_
        refine o_val (v_move rfl) rfl ?_
        refine o_want rfl ?_
        refine o_call (c_doneJ bm bl mo B r (B.length : Int)) V.b14  rfl (.cons (by repeat first | exact .head | apply Rem.tail) .nil) rfl ?_
        rintro _ _ ⟨rfl, rfl⟩
        rw [he]
        refine o_want rfl ?_
        refine o_val (v_to (v := .bool false) (v_not rfl) rfl) rfl ?_
        refine o_val (v_pickT rfl rfl) rfl ?_
        refine o_nil ?_
        refine thn_n ?_
        refine w_condF rfl ?_
        refine w_exit ?_
        refine thn_e ?_
        refine thn_e ?_
        refine blk_x ?_
        refine thn_n ?_
        refine w_seq ?_
        have heT : InfP.endJ r = true := by first | exact he | exact InfP.end_of hw hle hi (by omega)
        obtain rfl := hq.det (hw.res heT)
        refine w_net [⟨[], [], [7], 0, 0⟩, ⟨[0], [0], [], 0, 0⟩, ⟨[0, 1], [1], [], 0, 0⟩, ⟨[0, 1, 2], [2], [7], 0, 0⟩, ⟨[0, 1, 2, 3], [3, 2], [], 0, 0⟩, ⟨[0, 1, 2, 3, 4], [4, 2], [], 0, 0⟩, ⟨[0, 1, 2], [2], [8], 0, 0⟩, ⟨[0, 1, 2, 6], [6, 2], [], 0, 0⟩, ⟨[0, 1, 2, 3, 4, 5, 6, 7], [5, 7, 2], [], 0, 0⟩, ⟨[0, 1, 2, 3, 4, 5, 6, 7, 8], [2, 8], [], 0, 0⟩, ⟨[0, 1, 2, 3, 4, 5, 6, 7, 8, 9], [9], [], 0, 0⟩, ⟨[0, 1, 2, 3, 4, 5, 6, 7, 8, 9, 10], [10], [7], 0, 0⟩, ⟨[0, 1, 2, 3, 4, 5, 6, 7, 8, 9, 10, 11], [11, 10], [], 0, 0⟩, ⟨[0, 1, 2, 3, 4, 5, 6, 7, 8, 9, 10], [10], [9], 0, 0⟩, ⟨[0, 1, 2, 3, 4, 5, 6, 7, 8, 9, 10, 11, 12, 13], [12, 13, 10], [], 0, 0⟩, ⟨[0, 1, 2, 3, 4, 5, 6, 7, 8, 9, 10, 11, 12, 13, 14], [10, 14], [], 0, 0⟩, ⟨[0, 1, 2, 3, 4, 5, 6, 7, 8, 9, 10, 11, 12, 13, 14, 15], [15], [], 0, 0⟩, ⟨[0, 1, 2, 3, 4, 5, 6, 7, 8, 9, 10, 11, 12, 13, 14, 15, 16], [16], [7], 0, 0⟩, ⟨[0, 1, 2, 3, 4, 5, 6, 7, 8, 9, 10, 11, 12, 13, 14, 15, 16, 17], [17, 16], [], 0, 0⟩, ⟨[0, 1, 2, 3, 4, 5, 6, 7, 8, 9, 10, 11, 12, 13, 14, 15, 16], [16], [10], 0, 0⟩, ⟨[0, 1, 2, 3, 4, 5, 6, 7, 8, 9, 10, 11, 12, 13, 14, 15, 16, 17, 18, 19], [18, 19, 16], [], 0, 0⟩, ⟨[0, 1, 2, 3, 4, 5, 6, 7, 8, 9, 10, 11, 12, 13, 14, 15, 16, 17, 18, 19, 20], [16, 20], [], 0, 0⟩, ⟨[0, 1, 2, 3, 4, 5, 6, 7, 8, 9, 10, 11, 12, 13, 14, 15, 16, 17, 18, 19, 20, 21], [21], [], 0, 0⟩, ⟨[0, 1, 2, 3, 4, 5, 6, 7, 8, 9, 10, 11, 12, 13, 14, 15, 16, 17, 18, 19, 20, 21, 22], [22], [7], 0, 0⟩, ⟨[0, 1, 2, 3, 4, 5, 6, 7, 8, 9, 10, 11, 12, 13, 14, 15, 16, 17, 18, 19, 20, 21, 22, 23], [23, 22], [], 0, 0⟩, ⟨[0, 1, 2, 3, 4, 5, 6, 7, 8, 9, 10, 11, 12, 13, 14, 15, 16, 17, 18, 19, 20, 21, 22, 23, 24], [22, 24], [], 0, 0⟩, ⟨[0, 1, 2, 3, 4, 5, 6, 7, 8, 9, 10, 11, 12, 13, 14, 15, 16, 17, 18, 19, 20, 21, 22, 23, 24, 25], [25], [], 0, 0⟩] [⟨fun y => MJ bm bl (B.length : Int) mo B r, none, some 1, []⟩, ⟨fun y => RdR U5 p B.length B, none, none, []⟩, ⟨fun y => RdR I3 ps S.length S, none, none, []⟩, ⟨fun y => Row U5 q2 (InfP.outJ r).length c2 (InfP.outJ r), none, none, [7]⟩, ⟨fun y => MJ bm bl (B.length : Int) mo B r, some 1, some 4, []⟩, ⟨fun y => Row U5 (slP (y 4)) (InfP.outJ r).length (slC (y 4)) (InfP.outJ r), some 4, none, [5]⟩, ⟨fun y => MJ bm bl (B.length : Int) mo B r, some 4, some 12, []⟩, ⟨fun y => MJ bm bl (B.length : Int) mo B r, some 12, some 18, []⟩, ⟨fun y => MJ bm bl (B.length : Int) mo B r, some 18, some 24, []⟩, ⟨fun y => MJ bm bl (B.length : Int) mo B r, some 24, none, []⟩] F V.mixed (by kernel_rfl) rfl (fun _ => .refl _) (locT_0 _ (locT_0 _ (locT_0 _ (locT_0 _ (locT_1 [0] rfl (by intro y y2 h; rfl) (locT_1 [0, 1, 2, 3] rfl (by intro y y2 h; simp only [h 4 (.inl rfl)]) (locT_1 [0, 1, 2, 3] rfl (by intro y y2 h; rfl) (locT_1 [0, 1, 2, 3, 4, 5, 6, 7, 8, 9, 10, 11] rfl (by intro y y2 h; rfl) (locT_1 [0, 1, 2, 3, 4, 5, 6, 7, 8, 9, 10, 11, 12, 13, 14, 15, 16, 17] rfl (by intro y y2 h; rfl) (locT_1 [0, 1, 2, 3, 4, 5, 6, 7, 8, 9, 10, 11, 12, 13, 14, 15, 16, 17, 18, 19, 20, 21, 22, 23] rfl (by intro y y2 h; rfl) locT_nil)))))))))) ?_
        refine net_pure (fun y => [(7, _)]) (fun y => rfl) rfl rfl rfl (fun y hA L => st_v (v_move rfl) ⟨rfl, rfl⟩) (by intros; rfl) (by intro y y2 h; rfl) ?_
        refine net_eff (fun y => [MJ bm bl (B.length : Int) mo B r]) (fun y => []) (fun y => [MJ bm bl (B.length : Int) mo B r]) (fun y => [(110, _)]) (fun y => rfl) (fun y => rfl) (fun y => rfl) (fun y => rfl) (fun y FF hA => st_callN (Post := [MJ bm bl (B.length : Int) mo B r]) (c_doneJt bm bl mo B r (B.length : Int) heT) V.b14 rfl (.cons (by repeat first | exact .head | apply Rem.tail) .nil) (fun v G h => by rcases h with ⟨rfl, rfl⟩; exact ⟨rfl, .refl _⟩)) (by intros; rfl) (by intros; rfl) (by intro y y2 h; rfl) ?_
        refine net_pure (fun y => [(111, _)]) (fun y => rfl) rfl rfl rfl (fun y hA L => st_v (v_move rfl) ⟨rfl, rfl⟩) (by intros; rfl) (by intro y y2 h; rfl) ?_
        refine net_pure (fun y => [(112, _), (7, _)]) (fun y => rfl) rfl rfl rfl (fun y hA L => st_want rfl (st_v (v_move rfl) ⟨rfl, rfl⟩)) (by intros; rfl) (by intro y y2 h; rfl) ?_
        refine net_new (fun y v => .slice (slP v) (InfP.outJ r).length (slC v)) (fun y v => True) (fun y => [MJ bm bl (B.length : Int) mo B r]) (fun y => []) (fun y v => [Row U5 (slP v) (InfP.outJ r).length (slC v) (InfP.outJ r), MJ bm bl (B.length : Int) mo B r]) (fun y => [(113, _), (112, _)]) (fun y => rfl) (fun y => rfl) (fun y => rfl) (fun y => rfl) (fun y FF hA => st_want rfl (st_callSl (c_outJ bm bl mo B r (B.length : Int) (by omega) hw.ok) V.b16 rfl (.cons (by repeat first | exact .head | apply Rem.tail) .nil))) (by intros; rfl) (by intros; rfl) (by intros; rfl) (by intro y y2 h; simp only [h 4 (.inl rfl)]) (by intro y y2 h; rfl) ?_
        refine net_read (fun y => [Row U5 (slP (y 4)) (InfP.outJ r).length (slC (y 4)) (InfP.outJ r)]) (fun y => [(114, _), (112, _)]) (fun y => rfl) rfl (fun y => rfl) rfl (fun y FF hA => st_want rfl (st_v (v_str (T := 5) Try.underlying22 Try.underlying5 Try.underlying9 rfl (own (by repeat first | exact .head _ | apply List.Mem.tail))) ⟨rfl, rfl⟩)) (by intros; rfl) (by intro y y2 h; first | rfl | simp only [h 4 (.inr (by decide))]) ?_
        refine net_pure (fun y => [(112, _), (8, _)]) (fun y => rfl) rfl rfl rfl (fun y hA L => st_want rfl (st_v (v_move rfl) ⟨rfl, rfl⟩)) (by intros; rfl) (by intro y y2 h; rfl) ?_
        refine net_read (fun y => [Row U5 q2 (InfP.outJ r).length c2 (InfP.outJ r)]) (fun y => [(116, _), (112, _)]) (fun y => rfl) rfl (fun y => rfl) rfl (fun y FF hA => st_want rfl (st_v (v_str (T := 5) Try.underlying22 Try.underlying5 Try.underlying9 rfl (own (by repeat first | exact .head _ | apply List.Mem.tail))) ⟨rfl, rfl⟩)) (by intros; rfl) (by intro y y2 h; rfl) ?_
        refine net_pure (fun y => [(115, _), (117, _), (112, _)]) (fun y => rfl) rfl rfl rfl (fun y hA L => st_want rfl (st_v (v_sself rfl rfl) ⟨rfl, rfl⟩)) (by intros; rfl) (by intro y y2 h; rfl) ?_
        refine net_pure (fun y => [(112, _), (118, _)]) (fun y => rfl) rfl rfl rfl (fun y hA L => st_v (v_pickT rfl rfl) ⟨rfl, rfl⟩) (by intros; rfl) (by intro y y2 h; rfl) ?_
        refine net_pure (fun y => [(119, _)]) (fun y => rfl) rfl rfl rfl (fun y hA L => st_v (v_move rfl) ⟨rfl, rfl⟩) (by intros; rfl) (by intro y y2 h; rfl) ?_
        refine net_pure (fun y => [(120, _), (7, _)]) (fun y => rfl) rfl rfl rfl (fun y hA L => st_want rfl (st_v (v_move rfl) ⟨rfl, rfl⟩)) (by intros; rfl) (by intro y y2 h; rfl) ?_
        refine net_eff (fun y => [MJ bm bl (B.length : Int) mo B r]) (fun y => []) (fun y => [MJ bm bl (B.length : Int) mo B r]) (fun y => [(121, _), (120, _)]) (fun y => rfl) (fun y => rfl) (fun y => rfl) (fun y => rfl) (fun y FF hA => st_want rfl (st_callN (Post := [MJ bm bl (B.length : Int) mo B r]) (c_usedJ bm bl mo B r (by omega) (by omega) hw.ok) V.b18 rfl (.cons (by repeat first | exact .head | apply Rem.tail) .nil) (fun v G h => by rcases h with ⟨rfl, rfl⟩; exact ⟨rfl, .refl _⟩))) (by intros; rfl) (by intros; rfl) (by intro y y2 h; rfl) ?_
        refine net_pure (fun y => [(120, _), (9, _)]) (fun y => rfl) rfl rfl rfl (fun y hA L => st_want rfl (st_v (v_move rfl) ⟨rfl, rfl⟩)) (by intros; rfl) (by intro y y2 h; rfl) ?_
        refine net_pure (fun y => [(122, _), (123, _), (120, _)]) (fun y => rfl) rfl rfl rfl (fun y hA L => st_want rfl (st_v (v_T (v_eql rfl rfl) rfl) ⟨rfl, rfl⟩)) (by intros; rfl) (by intro y y2 h; rfl) ?_
        refine net_pure (fun y => [(120, _), (124, _)]) (fun y => rfl) rfl rfl rfl (fun y hA L => st_v (v_pickT rfl rfl) ⟨rfl, rfl⟩) (by intros; rfl) (by intro y y2 h; rfl) ?_
        refine net_pure (fun y => [(125, _)]) (fun y => rfl) rfl rfl rfl (fun y hA L => st_v (v_move rfl) ⟨rfl, rfl⟩) (by intros; rfl) (by intro y y2 h; rfl) ?_
        refine net_pure (fun y => [(126, _), (7, _)]) (fun y => rfl) rfl rfl rfl (fun y hA L => st_want rfl (st_v (v_move rfl) ⟨rfl, rfl⟩)) (by intros; rfl) (by intro y y2 h; rfl) ?_
        refine net_eff (fun y => [MJ bm bl (B.length : Int) mo B r]) (fun y => []) (fun y => [MJ bm bl (B.length : Int) mo B r]) (fun y => [(127, _), (126, _)]) (fun y => rfl) (fun y => rfl) (fun y => rfl) (fun y => rfl) (fun y FF hA => st_want rfl (st_callN (Post := [MJ bm bl (B.length : Int) mo B r]) (c_errJ bm bl mo B r (B.length : Int)) V.b17 rfl (.cons (by repeat first | exact .head | apply Rem.tail) .nil) (fun v G h => by rcases h with ⟨rfl, rfl⟩; exact ⟨rfl, .refl _⟩))) (by intros; rfl) (by intros; rfl) (by intro y y2 h; rfl) ?_
        refine net_pure (fun y => [(126, _), (10, _)]) (fun y => rfl) rfl rfl rfl (fun y hA L => st_want rfl (st_v (v_move rfl) ⟨rfl, rfl⟩)) (by intros; rfl) (by intro y y2 h; rfl) ?_
        refine net_pure (fun y => [(128, _), (129, _), (126, _)]) (fun y => rfl) rfl rfl rfl (fun y hA L => st_want rfl (st_v (v_T (v_eql rfl rfl) rfl) ⟨rfl, rfl⟩)) (by intros; rfl) (by intro y y2 h; rfl) ?_
        refine net_pure (fun y => [(126, _), (130, _)]) (fun y => rfl) rfl rfl rfl (fun y hA L => st_v (v_pickT rfl rfl) ⟨rfl, rfl⟩) (by intros; rfl) (by intro y y2 h; rfl) ?_
        refine net_pure (fun y => [(131, _)]) (fun y => rfl) rfl rfl rfl (fun y hA L => st_v (v_move rfl) ⟨rfl, rfl⟩) (by intros; rfl) (by intro y y2 h; rfl) ?_
        refine net_pure (fun y => [(132, _), (7, _)]) (fun y => rfl) rfl rfl rfl (fun y hA L => st_want rfl (st_v (v_move rfl) ⟨rfl, rfl⟩)) (by intros; rfl) (by intro y y2 h; rfl) ?_
        refine net_eff (fun y => [MJ bm bl (B.length : Int) mo B r]) (fun y => []) (fun y => [MJ bm bl (B.length : Int) mo B r]) (fun y => [(133, _), (132, _)]) (fun y => rfl) (fun y => rfl) (fun y => rfl) (fun y => rfl) (fun y FF hA => st_want rfl (st_callN (Post := [MJ bm bl (B.length : Int) mo B r]) (c_stepJt bm bl mo B r (B.length : Int) 1 (by omega) hB (by omega) hw.ok heT) V.b15 rfl (.cons (by repeat first | exact .head | apply Rem.tail) .nil) (fun v G h => by rcases h with ⟨rfl, rfl⟩; exact ⟨rfl, .refl _⟩))) (by intros; rfl) (by intros; rfl) (by intro y y2 h; rfl) ?_
        refine net_pure (fun y => [(132, _), (134, _)]) (fun y => rfl) rfl rfl rfl (fun y hA L => st_v (v_pickT rfl rfl) ⟨rfl, rfl⟩) (by intros; rfl) (by intro y y2 h; rfl) ?_
        refine net_pure (fun y => [(135, _)]) (fun y => rfl) rfl rfl rfl (fun y hA L => st_v (v_assign rfl) ⟨rfl, rfl⟩) (by intros; rfl) (by intro y y2 h; rfl) ?_
        refine net_nil ?_
        intro y hA
        clear hA
        refine thn_n ?_
        refine w_keep _ (.cons (d := 6) rfl (.nil _)) ?_
        refine w_sub (M := RdR U5 p B.length B :: RdR I3 ps S.length S :: Row U5 q2 (InfP.outJ r).length c2 (InfP.outJ r) :: Row U5 (slP (y 4)) (InfP.outJ r).length (slC (y 4)) (InfP.outJ r) :: MJ bm bl (B.length : Int) mo B r :: F) (fun _ _ h => h) ?_
        refine w_sub (sub .nil (.keep (.keep (.skip (.skip (.keep .refl)))))) ?_
        simp only [List.nil_append]
        generalize (slP (y 4)) = q114
        refine w_ret ?_
        exact ret_ok (G := [RdR U5 p B.length B, RdR I3 ps S.length S]) (res1 rfl) ⟨rfl, rfl⟩ (sub (.cons (by repeat first | exact .head | apply Rem.tail) (.cons (by repeat first | exact .head | apply Rem.tail) .nil)) (by repeat first | exact .refl | apply Drop.skip))
      ·
        refine w_seq ?_
        refine w_seq ?_
        refine w_region ?_
        refine o_val (v_move rfl) rfl ?_
        refine o_val (v_F (v_lss rfl rfl) (by omega)) rfl ?_
        refine o_val (v_move rfl) rfl ?_
        refine o_pass rfl rfl rfl ?_
        refine o_pass rfl rfl rfl ?_
        refine o_pass rfl rfl rfl ?_
        refine o_val (v_pickF rfl rfl) rfl ?_
        refine o_nil ?_
        refine thn_n ?_
        refine w_condF rfl ?_
        refine w_exit ?_
        refine thn_e ?_
        refine thn_e ?_
        refine blk_x ?_
        refine thn_n ?_
        refine w_seq ?_
        have heT : InfP.endJ r = true := by first | exact he | exact InfP.end_of hw hle hi (by omega)
        obtain rfl := hq.det (hw.res heT)
        refine w_net [⟨[], [], [7], 0, 0⟩, ⟨[0], [0], [], 0, 0⟩, ⟨[0, 1], [1], [], 0, 0⟩, ⟨[0, 1, 2], [2], [7], 0, 0⟩, ⟨[0, 1, 2, 3], [3, 2], [], 0, 0⟩, ⟨[0, 1, 2, 3, 4], [4, 2], [], 0, 0⟩, ⟨[0, 1, 2], [2], [8], 0, 0⟩, ⟨[0, 1, 2, 6], [6, 2], [], 0, 0⟩, ⟨[0, 1, 2, 3, 4, 5, 6, 7], [5, 7, 2], [], 0, 0⟩, ⟨[0, 1, 2, 3, 4, 5, 6, 7, 8], [2, 8], [], 0, 0⟩, ⟨[0, 1, 2, 3, 4, 5, 6, 7, 8, 9], [9], [], 0, 0⟩, ⟨[0, 1, 2, 3, 4, 5, 6, 7, 8, 9, 10], [10], [7], 0, 0⟩, ⟨[0, 1, 2, 3, 4, 5, 6, 7, 8, 9, 10, 11], [11, 10], [], 0, 0⟩, ⟨[0, 1, 2, 3, 4, 5, 6, 7, 8, 9, 10], [10], [9], 0, 0⟩, ⟨[0, 1, 2, 3, 4, 5, 6, 7, 8, 9, 10, 11, 12, 13], [12, 13, 10], [], 0, 0⟩, ⟨[0, 1, 2, 3, 4, 5, 6, 7, 8, 9, 10, 11, 12, 13, 14], [10, 14], [], 0, 0⟩, ⟨[0, 1, 2, 3, 4, 5, 6, 7, 8, 9, 10, 11, 12, 13, 14, 15], [15], [], 0, 0⟩, ⟨[0, 1, 2, 3, 4, 5, 6, 7, 8, 9, 10, 11, 12, 13, 14, 15, 16], [16], [7], 0, 0⟩, ⟨[0, 1, 2, 3, 4, 5, 6, 7, 8, 9, 10, 11, 12, 13, 14, 15, 16, 17], [17, 16], [], 0, 0⟩, ⟨[0, 1, 2, 3, 4, 5, 6, 7, 8, 9, 10, 11, 12, 13, 14, 15, 16], [16], [10], 0, 0⟩, ⟨[0, 1, 2, 3, 4, 5, 6, 7, 8, 9, 10, 11, 12, 13, 14, 15, 16, 17, 18, 19], [18, 19, 16], [], 0, 0⟩, ⟨[0, 1, 2, 3, 4, 5, 6, 7, 8, 9, 10, 11, 12, 13, 14, 15, 16, 17, 18, 19, 20], [16, 20], [], 0, 0⟩, ⟨[0, 1, 2, 3, 4, 5, 6, 7, 8, 9, 10, 11, 12, 13, 14, 15, 16, 17, 18, 19, 20, 21], [21], [], 0, 0⟩, ⟨[0, 1, 2, 3, 4, 5, 6, 7, 8, 9, 10, 11, 12, 13, 14, 15, 16, 17, 18, 19, 20, 21, 22], [22], [7], 0, 0⟩, ⟨[0, 1, 2, 3, 4, 5, 6, 7, 8, 9, 10, 11, 12, 13, 14, 15, 16, 17, 18, 19, 20, 21, 22, 23], [23, 22], [], 0, 0⟩, ⟨[0, 1, 2, 3, 4, 5, 6, 7, 8, 9, 10, 11, 12, 13, 14, 15, 16, 17, 18, 19, 20, 21, 22, 23, 24], [22, 24], [], 0, 0⟩, ⟨[0, 1, 2, 3, 4, 5, 6, 7, 8, 9, 10, 11, 12, 13, 14, 15, 16, 17, 18, 19, 20, 21, 22, 23, 24, 25], [25], [], 0, 0⟩] [⟨fun y => MJ bm bl (B.length : Int) mo B r, none, some 1, []⟩, ⟨fun y => RdR U5 p B.length B, none, none, []⟩, ⟨fun y => RdR I3 ps S.length S, none, none, []⟩, ⟨fun y => Row U5 q2 (InfP.outJ r).length c2 (InfP.outJ r), none, none, [7]⟩, ⟨fun y => MJ bm bl (B.length : Int) mo B r, some 1, some 4, []⟩, ⟨fun y => Row U5 (slP (y 4)) (InfP.outJ r).length (slC (y 4)) (InfP.outJ r), some 4, none, [5]⟩, ⟨fun y => MJ bm bl (B.length : Int) mo B r, some 4, some 12, []⟩, ⟨fun y => MJ bm bl (B.length : Int) mo B r, some 12, some 18, []⟩, ⟨fun y => MJ bm bl (B.length : Int) mo B r, some 18, some 24, []⟩, ⟨fun y => MJ bm bl (B.length : Int) mo B r, some 24, none, []⟩] F V.mixed (by kernel_rfl) rfl (fun _ => .refl _) (locT_0 _ (locT_0 _ (locT_0 _ (locT_0 _ (locT_1 [0] rfl (by intro y y2 h; rfl) (locT_1 [0, 1, 2, 3] rfl (by intro y y2 h; simp only [h 4 (.inl rfl)]) (locT_1 [0, 1, 2, 3] rfl (by intro y y2 h; rfl) (locT_1 [0, 1, 2, 3, 4, 5, 6, 7, 8, 9, 10, 11] rfl (by intro y y2 h; rfl) (locT_1 [0, 1, 2, 3, 4, 5, 6, 7, 8, 9, 10, 11, 12, 13, 14, 15, 16, 17] rfl (by intro y y2 h; rfl) (locT_1 [0, 1, 2, 3, 4, 5, 6, 7, 8, 9, 10, 11, 12, 13, 14, 15, 16, 17, 18, 19, 20, 21, 22, 23] rfl (by intro y y2 h; rfl) locT_nil)))))))))) ?_
        refine net_pure (fun y => [(7, _)]) (fun y => rfl) rfl rfl rfl (fun y hA L => st_v (v_move rfl) ⟨rfl, rfl⟩) (by intros; rfl) (by intro y y2 h; rfl) ?_
        refine net_eff (fun y => [MJ bm bl (B.length : Int) mo B r]) (fun y => []) (fun y => [MJ bm bl (B.length : Int) mo B r]) (fun y => [(110, _)]) (fun y => rfl) (fun y => rfl) (fun y => rfl) (fun y => rfl) (fun y FF hA => st_callN (Post := [MJ bm bl (B.length : Int) mo B r]) (c_doneJt bm bl mo B r (B.length : Int) heT) V.b14 rfl (.cons (by repeat first | exact .head | apply Rem.tail) .nil) (fun v G h => by rcases h with ⟨rfl, rfl⟩; exact ⟨rfl, .refl _⟩)) (by intros; rfl) (by intros; rfl) (by intro y y2 h; rfl) ?_
        refine net_pure (fun y => [(111, _)]) (fun y => rfl) rfl rfl rfl (fun y hA L => st_v (v_move rfl) ⟨rfl, rfl⟩) (by intros; rfl) (by intro y y2 h; rfl) ?_
        refine net_pure (fun y => [(112, _), (7, _)]) (fun y => rfl) rfl rfl rfl (fun y hA L => st_want rfl (st_v (v_move rfl) ⟨rfl, rfl⟩)) (by intros; rfl) (by intro y y2 h; rfl) ?_
        refine net_new (fun y v => .slice (slP v) (InfP.outJ r).length (slC v)) (fun y v => True) (fun y => [MJ bm bl (B.length : Int) mo B r]) (fun y => []) (fun y v => [Row U5 (slP v) (InfP.outJ r).length (slC v) (InfP.outJ r), MJ bm bl (B.length : Int) mo B r]) (fun y => [(113, _), (112, _)]) (fun y => rfl) (fun y => rfl) (fun y => rfl) (fun y => rfl) (fun y FF hA => st_want rfl (st_callSl (c_outJ bm bl mo B r (B.length : Int) (by omega) hw.ok) V.b16 rfl (.cons (by repeat first | exact .head | apply Rem.tail) .nil))) (by intros; rfl) (by intros; rfl) (by intros; rfl) (by intro y y2 h; simp only [h 4 (.inl rfl)]) (by intro y y2 h; rfl) ?_
        refine net_read (fun y => [Row U5 (slP (y 4)) (InfP.outJ r).length (slC (y 4)) (InfP.outJ r)]) (fun y => [(114, _), (112, _)]) (fun y => rfl) rfl (fun y => rfl) rfl (fun y FF hA => st_want rfl (st_v (v_str (T := 5) Try.underlying22 Try.underlying5 Try.underlying9 rfl (own (by repeat first | exact .head _ | apply List.Mem.tail))) ⟨rfl, rfl⟩)) (by intros; rfl) (by intro y y2 h; first | rfl | simp only [h 4 (.inr (by decide))]) ?_
        refine net_pure (fun y => [(112, _), (8, _)]) (fun y => rfl) rfl rfl rfl (fun y hA L => st_want rfl (st_v (v_move rfl) ⟨rfl, rfl⟩)) (by intros; rfl) (by intro y y2 h; rfl) ?_
        refine net_read (fun y => [Row U5 q2 (InfP.outJ r).length c2 (InfP.outJ r)]) (fun y => [(116, _), (112, _)]) (fun y => rfl) rfl (fun y => rfl) rfl (fun y FF hA => st_want rfl (st_v (v_str (T := 5) Try.underlying22 Try.underlying5 Try.underlying9 rfl (own (by repeat first | exact .head _ | apply List.Mem.tail))) ⟨rfl, rfl⟩)) (by intros; rfl) (by intro y y2 h; rfl) ?_
        refine net_pure (fun y => [(115, _), (117, _), (112, _)]) (fun y => rfl) rfl rfl rfl (fun y hA L => st_want rfl (st_v (v_sself rfl rfl) ⟨rfl, rfl⟩)) (by intros; rfl) (by intro y y2 h; rfl) ?_
        refine net_pure (fun y => [(112, _), (118, _)]) (fun y => rfl) rfl rfl rfl (fun y hA L => st_v (v_pickT rfl rfl) ⟨rfl, rfl⟩) (by intros; rfl) (by intro y y2 h; rfl) ?_
        refine net_pure (fun y => [(119, _)]) (fun y => rfl) rfl rfl rfl (fun y hA L => st_v (v_move rfl) ⟨rfl, rfl⟩) (by intros; rfl) (by intro y y2 h; rfl) ?_
        refine net_pure (fun y => [(120, _), (7, _)]) (fun y => rfl) rfl rfl rfl (fun y hA L => st_want rfl (st_v (v_move rfl) ⟨rfl, rfl⟩)) (by intros; rfl) (by intro y y2 h; rfl) ?_
        refine net_eff (fun y => [MJ bm bl (B.length : Int) mo B r]) (fun y => []) (fun y => [MJ bm bl (B.length : Int) mo B r]) (fun y => [(121, _), (120, _)]) (fun y => rfl) (fun y => rfl) (fun y => rfl) (fun y => rfl) (fun y FF hA => st_want rfl (st_callN (Post := [MJ bm bl (B.length : Int) mo B r]) (c_usedJ bm bl mo B r (by omega) (by omega) hw.ok) V.b18 rfl (.cons (by repeat first | exact .head | apply Rem.tail) .nil) (fun v G h => by rcases h with ⟨rfl, rfl⟩; exact ⟨rfl, .refl _⟩))) (by intros; rfl) (by intros; rfl) (by intro y y2 h; rfl) ?_
        refine net_pure (fun y => [(120, _), (9, _)]) (fun y => rfl) rfl rfl rfl (fun y hA L => st_want rfl (st_v (v_move rfl) ⟨rfl, rfl⟩)) (by intros; rfl) (by intro y y2 h; rfl) ?_
        refine net_pure (fun y => [(122, _), (123, _), (120, _)]) (fun y => rfl) rfl rfl rfl (fun y hA L => st_want rfl (st_v (v_T (v_eql rfl rfl) rfl) ⟨rfl, rfl⟩)) (by intros; rfl) (by intro y y2 h; rfl) ?_
        refine net_pure (fun y => [(120, _), (124, _)]) (fun y => rfl) rfl rfl rfl (fun y hA L => st_v (v_pickT rfl rfl) ⟨rfl, rfl⟩) (by intros; rfl) (by intro y y2 h; rfl) ?_
        refine net_pure (fun y => [(125, _)]) (fun y => rfl) rfl rfl rfl (fun y hA L => st_v (v_move rfl) ⟨rfl, rfl⟩) (by intros; rfl) (by intro y y2 h; rfl) ?_
        refine net_pure (fun y => [(126, _), (7, _)]) (fun y => rfl) rfl rfl rfl (fun y hA L => st_want rfl (st_v (v_move rfl) ⟨rfl, rfl⟩)) (by intros; rfl) (by intro y y2 h; rfl) ?_
        refine net_eff (fun y => [MJ bm bl (B.length : Int) mo B r]) (fun y => []) (fun y => [MJ bm bl (B.length : Int) mo B r]) (fun y => [(127, _), (126, _)]) (fun y => rfl) (fun y => rfl) (fun y => rfl) (fun y => rfl) (fun y FF hA => st_want rfl (st_callN (Post := [MJ bm bl (B.length : Int) mo B r]) (c_errJ bm bl mo B r (B.length : Int)) V.b17 rfl (.cons (by repeat first | exact .head | apply Rem.tail) .nil) (fun v G h => by rcases h with ⟨rfl, rfl⟩; exact ⟨rfl, .refl _⟩))) (by intros; rfl) (by intros; rfl) (by intro y y2 h; rfl) ?_
        refine net_pure (fun y => [(126, _), (10, _)]) (fun y => rfl) rfl rfl rfl (fun y hA L => st_want rfl (st_v (v_move rfl) ⟨rfl, rfl⟩)) (by intros; rfl) (by intro y y2 h; rfl) ?_
        refine net_pure (fun y => [(128, _), (129, _), (126, _)]) (fun y => rfl) rfl rfl rfl (fun y hA L => st_want rfl (st_v (v_T (v_eql rfl rfl) rfl) ⟨rfl, rfl⟩)) (by intros; rfl) (by intro y y2 h; rfl) ?_
        refine net_pure (fun y => [(126, _), (130, _)]) (fun y => rfl) rfl rfl rfl (fun y hA L => st_v (v_pickT rfl rfl) ⟨rfl, rfl⟩) (by intros; rfl) (by intro y y2 h; rfl) ?_
        refine net_pure (fun y => [(131, _)]) (fun y => rfl) rfl rfl rfl (fun y hA L => st_v (v_move rfl) ⟨rfl, rfl⟩) (by intros; rfl) (by intro y y2 h; rfl) ?_
        refine net_pure (fun y => [(132, _), (7, _)]) (fun y => rfl) rfl rfl rfl (fun y hA L => st_want rfl (st_v (v_move rfl) ⟨rfl, rfl⟩)) (by intros; rfl) (by intro y y2 h; rfl) ?_
        refine net_eff (fun y => [MJ bm bl (B.length : Int) mo B r]) (fun y => []) (fun y => [MJ bm bl (B.length : Int) mo B r]) (fun y => [(133, _), (132, _)]) (fun y => rfl) (fun y => rfl) (fun y => rfl) (fun y => rfl) (fun y FF hA => st_want rfl (st_callN (Post := [MJ bm bl (B.length : Int) mo B r]) (c_stepJt bm bl mo B r (B.length : Int) 1 (by omega) hB (by omega) hw.ok heT) V.b15 rfl (.cons (by repeat first | exact .head | apply Rem.tail) .nil) (fun v G h => by rcases h with ⟨rfl, rfl⟩; exact ⟨rfl, .refl _⟩))) (by intros; rfl) (by intros; rfl) (by intro y y2 h; rfl) ?_
        refine net_pure (fun y => [(132, _), (134, _)]) (fun y => rfl) rfl rfl rfl (fun y hA L => st_v (v_pickT rfl rfl) ⟨rfl, rfl⟩) (by intros; rfl) (by intro y y2 h; rfl) ?_
        refine net_pure (fun y => [(135, _)]) (fun y => rfl) rfl rfl rfl (fun y hA L => st_v (v_assign rfl) ⟨rfl, rfl⟩) (by intros; rfl) (by intro y y2 h; rfl) ?_
        refine net_nil ?_
        intro y hA
        clear hA
        refine thn_n ?_
        refine w_keep _ (.cons (d := 6) rfl (.nil _)) ?_
        refine w_sub (M := RdR U5 p B.length B :: RdR I3 ps S.length S :: Row U5 q2 (InfP.outJ r).length c2 (InfP.outJ r) :: Row U5 (slP (y 4)) (InfP.outJ r).length (slC (y 4)) (InfP.outJ r) :: MJ bm bl (B.length : Int) mo B r :: F) (fun _ _ h => h) ?_
        refine w_sub (sub .nil (.keep (.keep (.skip (.skip (.keep .refl)))))) ?_
        simp only [List.nil_append]
        generalize (slP (y 4)) = q114
        refine w_ret ?_
        exact ret_ok (G := [RdR U5 p B.length B, RdR I3 ps S.length S]) (res1 rfl) ⟨rfl, rfl⟩ (sub (.cons (by repeat first | exact .head | apply Rem.tail) (.cons (by repeat first | exact .head | apply Rem.tail) .nil)) (by repeat first | exact .refl | apply Drop.skip))
  ·
    refine w_seq ?_
    refine w_seq ?_
    refine w_region ?_
    refine o_val (v_move rfl) rfl ?_
    refine o_val (v_len (ty' := 0) Try.underlying22 rfl) rfl ?_
    refine o_val (v_F (v_gtr rfl rfl) (by omega)) rfl ?_
    refine o_val (v_move rfl) rfl ?_
    refine o_want rfl ?_
    refine o_val (v_move rfl) rfl ?_
    refine o_want rfl ?_
    refine o_val (v_F (v_gtr rfl rfl) (by omega)) rfl ?_
    refine o_val (v_pickF rfl rfl) rfl ?_
    refine o_val (v_move rfl) rfl ?_
    refine o_want rfl ?_
    refine o_val (v_move rfl) rfl ?_
    refine o_want rfl ?_
    refine o_val (v_len (ty' := 0) Try.underlying30 rfl) rfl ?_
    refine o_want rfl ?_
    refine o_val (v_T (v_gtr rfl rfl) (by omega)) rfl ?_
    refine o_val (v_pickF rfl rfl) rfl ?_
    refine o_nil ?_
    refine thn_n ?_
    refine w_condT rfl ?_
    refine w_seq ?_
    refine w_region ?_
    refine o_val (v_assign rfl) rfl ?_
    refine o_nil ?_
    refine thn_n ?_
    refine w_ret ?_
    refine (thn_r ?_)
    exact ret_ok (G := [RdR U5 p B.length B, RdR I3 ps S.length S]) (res1 rfl) ⟨rfl, rfl⟩ (sub (.cons (by repeat first | exact .head | apply Rem.tail) (.cons (by repeat first | exact .head | apply Rem.tail) .nil)) (by repeat first | exact .refl | apply Drop.skip))
  ·
    refine w_seq ?_
    refine w_seq ?_
    refine w_region ?_
    refine o_val (v_move rfl) rfl ?_
    refine o_val (v_len (ty' := 0) Try.underlying22 rfl) rfl ?_
    refine o_val (v_F (v_gtr rfl rfl) (by omega)) rfl ?_
    refine o_val (v_move rfl) rfl ?_
    refine o_want rfl ?_
    refine o_val (v_move rfl) rfl ?_
    refine o_want rfl ?_
    refine o_val (v_T (v_gtr rfl rfl) (by omega)) rfl ?_
    refine o_val (v_pickF rfl rfl) rfl ?_
    refine o_val (v_move rfl) rfl ?_
    refine o_pass rfl rfl rfl ?_
    refine o_pass rfl rfl rfl ?_
    refine o_pass rfl rfl rfl ?_
    refine o_val (v_pickT rfl rfl) rfl ?_
    refine o_nil ?_
    refine thn_n ?_
    refine w_condT rfl ?_
    refine w_seq ?_
    refine w_region ?_
    refine o_val (v_assign rfl) rfl ?_
    refine o_nil ?_
    refine thn_n ?_
    refine w_ret ?_
    refine (thn_r ?_)
    exact ret_ok (G := [RdR U5 p B.length B, RdR I3 ps S.length S]) (res1 rfl) ⟨rfl, rfl⟩ (sub (.cons (by repeat first | exact .head | apply Rem.tail) (.cons (by repeat first | exact .head | apply Rem.tail) .nil)) (by repeat first | exact .refl | apply Drop.skip))
  ·
    refine w_seq ?_
    refine w_seq ?_
    refine w_region ?_
    refine o_val (v_move rfl) rfl ?_
    refine o_val (v_len (ty' := 0) Try.underlying22 rfl) rfl ?_
    refine o_val (v_T (v_gtr rfl rfl) (by omega)) rfl ?_
    refine o_val (v_move rfl) rfl ?_
    refine o_pass rfl rfl rfl ?_
    refine o_pass rfl rfl rfl ?_
    refine o_val (v_pickT rfl rfl) rfl ?_
    refine o_val (v_move rfl) rfl ?_
    refine o_pass rfl rfl rfl ?_
    refine o_pass rfl rfl rfl ?_
    refine o_pass rfl rfl rfl ?_
    refine o_val (v_pickT rfl rfl) rfl ?_
    refine o_nil ?_
    refine thn_n ?_
    refine w_condT rfl ?_
    refine w_seq ?_
    refine w_region ?_
    refine o_val (v_assign rfl) rfl ?_
    refine o_nil ?_
    refine thn_n ?_
    refine w_ret ?_
    refine (thn_r ?_)
    exact ret_ok (G := [RdR U5 p B.length B, RdR I3 ps S.length S]) (res1 rfl) ⟨rfl, rfl⟩ (sub (.cons (by repeat first | exact .head | apply Rem.tail) (.cons (by repeat first | exact .head | apply Rem.tail) .nil)) (by repeat first | exact .refl | apply Drop.skip))
end Go.Proofs.Ytoplcgkafaoafaa

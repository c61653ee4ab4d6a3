/- Walks of functions that the law reaches, and what they lean on; no conditions. -/
import Derived.Test.YtookicfejdbddaaGreatUsC
set_option linter.unusedVariables false
set_option linter.unusedSimpArgs false
set_option linter.unnecessarySimpa false
set_option maxRecDepth 100000
namespace Go.Proofs.YtookicfejdbddaaGreat
open Go.Sl 
attribute [local irreducible] BitP.Byt UsP.hi UsP.lo UsP.dn UsP.sg UsP.sizeE UsP.kind UsP.bgs UsP.sgn UsP.g7 UsP.g9 UsP.bm UsP.sid UsP.lst UsP.err UsP.pw UsP.ph UsP.cost UsP.room
set_option maxHeartbeats 1000000 in
theorem u_peek0 (p : Option Addr) (c : Nat) (B : List Int) (R : HProp) (hR : ∀ w0 h, R w0 h → RdR U5 p B.length B w0 h) (hB : BitP.Byt B) (hl : B.length < 500000000) (hcap : B.length ≤ c) (hk : UsP.kind B = 0) : Ctr Tryz.prog 23 [.slice p B.length c] [R] (Ret fun v G => v = .tuple #[.int .i64 (UsP.pw B), .int .i64 (UsP.ph B), .int .i64 (UsP.err B)] ∧ G = [R]) := by
  refine spec_of [(0, _)] Tryz.func23 rfl Tryz.ntmps23 rfl rfl ?_
  intro w0 F
  refine w_seq ?_
  refine w_region ?_
  refine o_val (v_assign rfl) rfl ?_
  refine o_val (v_assign rfl) rfl ?_
  refine o_val (v_assign rfl) rfl ?_
  refine o_nil ?_
  refine thn_n ?_
  refine w_seq ?_
  refine w_region ?_
  refine o_val (v_move rfl) rfl ?_
  refine o_call (u_kind p c B R hR hB hl hcap) W.b25  rfl (.cons (by repeat first | exact .head | apply Rem.tail) .nil) rfl ?_
  rintro _ _ ⟨rfl, rfl⟩
  refine o_call (u_of0 (UsP.kind B : Int) (by omega)) W.b73  rfl .nil rfl ?_
  rintro _ _ ⟨rfl, rfl⟩
  refine o_val (v_move rfl) rfl ?_
  refine o_val (v_extract rfl rfl) rfl ?_
  refine o_val (v_extract rfl rfl) rfl ?_
  refine o_val (v_assign rfl) rfl ?_
  refine o_val (v_assign rfl) rfl ?_
  refine o_nil ?_
  refine thn_n ?_
  refine w_seq ?_
  refine w_block ?_
  refine w_seq ?_
  refine w_region ?_
  refine o_val (v_move rfl) rfl ?_
  refine o_val (v_to (v := .bool true) (v_not rfl) rfl) rfl ?_
  refine o_val (v_assign rfl) rfl ?_
  refine o_nil ?_
  refine thn_n ?_
  refine w_condT rfl ?_
  refine w_seq ?_
  refine w_region ?_
  refine o_val (v_assign rfl) rfl ?_
  refine o_val (v_assign rfl) rfl ?_
  refine o_val (v_assign rfl) rfl ?_
  refine o_nil ?_
  refine thn_n ?_
  refine w_ret ?_
  refine (blk_r (thn_r ?_))
  obtain ⟨e1, e2, e3⟩ := UsP.pk_no (UsP.err_7 hk) (by decide)
  exact ret_ok (G := [R]) (res3 rfl rfl rfl) ⟨by rw [e1, e2, e3] <;> rfl, rfl⟩ (sub (.cons (by repeat first | exact .head | apply Rem.tail) .nil) (by repeat first | exact .refl | apply Drop.skip))
set_option maxHeartbeats 1000000 in
theorem u_peek1 (p : Option Addr) (c : Nat) (B : List Int) (R : HProp) (hR : ∀ w0 h, R w0 h → RdR U5 p B.length B w0 h) (hB : BitP.Byt B) (hl : B.length < 500000000) (hcap : B.length ≤ c) (hk : UsP.kind B = 1) : Ctr Tryz.prog 23 [.slice p B.length c] [R] (Ret fun v G => v = .tuple #[.int .i64 (UsP.pw B), .int .i64 (UsP.ph B), .int .i64 (UsP.err B)] ∧ G = [R]) := by
  refine spec_of [(0, _)] Tryz.func23 rfl Tryz.ntmps23 rfl rfl ?_
  intro w0 F
  refine w_seq ?_
  refine w_region ?_
  refine o_val (v_assign rfl) rfl ?_
  refine o_val (v_assign rfl) rfl ?_
  refine o_val (v_assign rfl) rfl ?_
  refine o_nil ?_
  refine thn_n ?_
  refine w_seq ?_
  refine w_region ?_
  refine o_val (v_move rfl) rfl ?_
  refine o_call (u_kind p c B R hR hB hl hcap) W.b25  rfl (.cons (by repeat first | exact .head | apply Rem.tail) .nil) rfl ?_
  rintro _ _ ⟨rfl, rfl⟩
  refine o_call (u_of1 (UsP.kind B : Int) (by omega)) W.b73  rfl .nil rfl ?_
  rintro _ _ ⟨rfl, rfl⟩
  refine o_val (v_move rfl) rfl ?_
  refine o_val (v_extract rfl rfl) rfl ?_
  refine o_val (v_extract rfl rfl) rfl ?_
  refine o_val (v_assign rfl) rfl ?_
  refine o_val (v_assign rfl) rfl ?_
  refine o_nil ?_
  refine thn_n ?_
  refine w_seq ?_
  refine w_block ?_
  refine w_seq ?_
  refine w_region ?_
  refine o_val (v_move rfl) rfl ?_
  refine o_val (v_to (v := .bool false) (v_not rfl) rfl) rfl ?_
  refine o_val (v_assign rfl) rfl ?_
  refine o_nil ?_
  refine thn_n ?_
  refine w_condF rfl ?_
  rcases (Classical.em (B.length < 26)) with hlt | hlt
  ·
    refine w_seq ?_
    refine w_region ?_
    refine o_val (v_move rfl) rfl ?_
    refine o_val (v_len (ty' := 0) Tryz.underlying28 rfl) rfl ?_
    refine o_val (v_move rfl) rfl ?_
    refine o_callI (u_leastP) W.b232 W.me207_232 rfl rfl .nil rfl ?_
    rintro _ _ ⟨rfl, rfl⟩
    refine o_val (v_T (v_lss rfl rfl) (by omega)) rfl ?_
    refine o_val (v_assign rfl) rfl ?_
    refine o_nil ?_
    refine thn_n ?_
    refine w_condT rfl ?_
    refine w_seq ?_
    refine w_region ?_
    refine o_val (v_assign rfl) rfl ?_
    refine o_val (v_assign rfl) rfl ?_
    refine o_val (v_assign rfl) rfl ?_
    refine o_nil ?_
    refine thn_n ?_
    refine w_ret ?_
    refine (blk_r (thn_r ?_))
    obtain ⟨e1, e2, e3⟩ := UsP.pk_no (UsP.err_2 hk (by decide) (UsP.lst1 hk) hlt) (by decide)
    exact ret_ok (G := [R]) (res3 rfl rfl rfl) ⟨by rw [e1, e2, e3] <;> rfl, rfl⟩ (sub (.cons (by repeat first | exact .head | apply Rem.tail) .nil) (by repeat first | exact .refl | apply Drop.skip))
  ·
    refine w_seq ?_
    refine w_region ?_
    refine o_val (v_move rfl) rfl ?_
    refine o_val (v_len (ty' := 0) Tryz.underlying28 rfl) rfl ?_
    refine o_val (v_move rfl) rfl ?_
    refine o_callI (u_leastP) W.b232 W.me207_232 rfl rfl .nil rfl ?_
    rintro _ _ ⟨rfl, rfl⟩
    refine o_val (v_F (v_lss rfl rfl) (by omega)) rfl ?_
    refine o_val (v_assign rfl) rfl ?_
    refine o_nil ?_
    refine thn_n ?_
    refine w_condF rfl ?_
    refine w_skip ?_
    refine blk_n ?_
    refine thn_n ?_
    refine w_seq ?_
    refine w_region ?_
    refine o_val (v_move rfl) rfl ?_
    refine o_val (v_move rfl) rfl ?_
    refine o_callI (u_sidesP p c B R hR hB hl hcap (by omega)) W.b233 W.me207_233 rfl rfl (.cons (by repeat first | exact .head | apply Rem.tail) .nil) rfl ?_
    rintro _ _ ⟨rfl, rfl⟩
    refine o_val (v_move rfl) rfl ?_
    refine o_val (v_extract rfl rfl) rfl ?_
    refine o_val (v_extract rfl rfl) rfl ?_
    refine o_val (v_assign rfl) rfl ?_
    refine o_val (v_assign rfl) rfl ?_
    refine o_nil ?_
    refine thn_n ?_
    refine w_seq ?_
    refine w_seq ?_
    refine w_region ?_
    refine o_val (v_move rfl) rfl ?_
    refine o_val (v_move rfl) rfl ?_
    refine o_call (a_size (UsP.hi B 16 4) (UsP.hi B 20 4)) W.b74  rfl .nil rfl ?_
    rintro _ _ ⟨rfl, rfl⟩
    refine o_val (v_assign rfl) rfl ?_
    refine o_nil ?_
    refine thn_n ?_
    rcases (Classical.em ((UsP.sizeE (UsP.hi B 16 4) (UsP.hi B 20 4)) = 0)) with hs | hs
    ·
      refine w_seq ?_
      refine w_region ?_
      refine o_val (v_move rfl) rfl ?_
      refine o_val (v_F (v_neq rfl rfl) (fun h => h hs)) rfl ?_
      refine o_nil ?_
      refine thn_n ?_
      refine w_condF rfl ?_
      refine w_skip ?_
      refine thn_n ?_
      refine w_seq ?_
      refine w_region ?_
      refine o_val (v_move rfl) rfl ?_
      refine o_val (v_move rfl) rfl ?_
      refine o_val (v_assign rfl) rfl ?_
      refine o_val (v_assign rfl) rfl ?_
      refine o_val (v_assign rfl) rfl ?_
      refine o_nil ?_
      refine thn_n ?_
      refine w_ret ?_
      obtain ⟨e1, e2, e3⟩ := UsP.pk_yes ((UsP.err_s hk (by decide) (UsP.lst1 hk) hlt (UsP.sid1 hk)).trans hs) (UsP.sid1 hk)
      exact ret_ok (G := [R]) (res3 rfl rfl rfl) ⟨by rw [e1, e2, e3] <;> rfl, rfl⟩ (sub (.cons (by repeat first | exact .head | apply Rem.tail) .nil) (by repeat first | exact .refl | apply Drop.skip))
    ·
      refine w_seq ?_
      refine w_region ?_
      refine o_val (v_move rfl) rfl ?_
      refine o_val (v_T (v_neq rfl rfl) hs) rfl ?_
      refine o_nil ?_
      refine thn_n ?_
      refine w_condT rfl ?_
      refine w_seq ?_
      refine w_region ?_
      refine o_val (v_move rfl) rfl ?_
      refine o_val (v_assign rfl) rfl ?_
      refine o_val (v_assign rfl) rfl ?_
      refine o_val (v_assign rfl) rfl ?_
      refine o_nil ?_
      refine thn_n ?_
      refine w_ret ?_
      refine (thn_r ?_)
      obtain ⟨e1, e2, e3⟩ := UsP.pk_no (UsP.err_s hk (by decide) (UsP.lst1 hk) hlt (UsP.sid1 hk)) hs
      exact ret_ok (G := [R]) (res3 rfl rfl rfl) ⟨by rw [e1, e2, e3] <;> rfl, rfl⟩ (sub (.cons (by repeat first | exact .head | apply Rem.tail) .nil) (by repeat first | exact .refl | apply Drop.skip))
set_option maxHeartbeats 1000000 in
theorem u_peek2 (p : Option Addr) (c : Nat) (B : List Int) (R : HProp) (hR : ∀ w0 h, R w0 h → RdR U5 p B.length B w0 h) (hB : BitP.Byt B) (hl : B.length < 500000000) (hcap : B.length ≤ c) (hk : UsP.kind B = 2) : Ctr Tryz.prog 23 [.slice p B.length c] [R] (Ret fun v G => v = .tuple #[.int .i64 (UsP.pw B), .int .i64 (UsP.ph B), .int .i64 (UsP.err B)] ∧ G = [R]) := by
  refine spec_of [(0, _)] Tryz.func23 rfl Tryz.ntmps23 rfl rfl ?_
  intro w0 F
  refine w_seq ?_
  refine w_region ?_
  refine o_val (v_assign rfl) rfl ?_
  refine o_val (v_assign rfl) rfl ?_
  refine o_val (v_assign rfl) rfl ?_
  refine o_nil ?_
  refine thn_n ?_
  refine w_seq ?_
  refine w_region ?_
  refine o_val (v_move rfl) rfl ?_
  refine o_call (u_kind p c B R hR hB hl hcap) W.b25  rfl (.cons (by repeat first | exact .head | apply Rem.tail) .nil) rfl ?_
  rintro _ _ ⟨rfl, rfl⟩
  refine o_call (u_of2 (UsP.kind B : Int) (by omega)) W.b73  rfl .nil rfl ?_
  rintro _ _ ⟨rfl, rfl⟩
  refine o_val (v_move rfl) rfl ?_
  refine o_val (v_extract rfl rfl) rfl ?_
  refine o_val (v_extract rfl rfl) rfl ?_
  refine o_val (v_assign rfl) rfl ?_
  refine o_val (v_assign rfl) rfl ?_
  refine o_nil ?_
  refine thn_n ?_
  refine w_seq ?_
  refine w_block ?_
  refine w_seq ?_
  refine w_region ?_
  refine o_val (v_move rfl) rfl ?_
  refine o_val (v_to (v := .bool false) (v_not rfl) rfl) rfl ?_
  refine o_val (v_assign rfl) rfl ?_
  refine o_nil ?_
  refine thn_n ?_
  refine w_condF rfl ?_
  rcases (Classical.em (B.length < 10)) with hlt | hlt
  ·
    refine w_seq ?_
    refine w_region ?_
    refine o_val (v_move rfl) rfl ?_
    refine o_val (v_len (ty' := 0) Tryz.underlying28 rfl) rfl ?_
    refine o_val (v_move rfl) rfl ?_
    refine o_callI (u_leastG) W.b425 W.me208_425 rfl rfl .nil rfl ?_
    rintro _ _ ⟨rfl, rfl⟩
    refine o_val (v_T (v_lss rfl rfl) (by omega)) rfl ?_
    refine o_val (v_assign rfl) rfl ?_
    refine o_nil ?_
    refine thn_n ?_
    refine w_condT rfl ?_
    refine w_seq ?_
    refine w_region ?_
    refine o_val (v_assign rfl) rfl ?_
    refine o_val (v_assign rfl) rfl ?_
    refine o_val (v_assign rfl) rfl ?_
    refine o_nil ?_
    refine thn_n ?_
    refine w_ret ?_
    refine (blk_r (thn_r ?_))
    obtain ⟨e1, e2, e3⟩ := UsP.pk_no (UsP.err_2 hk (by decide) (UsP.lst2 hk) hlt) (by decide)
    exact ret_ok (G := [R]) (res3 rfl rfl rfl) ⟨by rw [e1, e2, e3] <;> rfl, rfl⟩ (sub (.cons (by repeat first | exact .head | apply Rem.tail) .nil) (by repeat first | exact .refl | apply Drop.skip))
  ·
    refine w_seq ?_
    refine w_region ?_
    refine o_val (v_move rfl) rfl ?_
    refine o_val (v_len (ty' := 0) Tryz.underlying28 rfl) rfl ?_
    refine o_val (v_move rfl) rfl ?_
    refine o_callI (u_leastG) W.b425 W.me208_425 rfl rfl .nil rfl ?_
    rintro _ _ ⟨rfl, rfl⟩
    refine o_val (v_F (v_lss rfl rfl) (by omega)) rfl ?_
    refine o_val (v_assign rfl) rfl ?_
    refine o_nil ?_
    refine thn_n ?_
    refine w_condF rfl ?_
    refine w_skip ?_
    refine blk_n ?_
    refine thn_n ?_
    refine w_seq ?_
    refine w_region ?_
    refine o_val (v_move rfl) rfl ?_
    refine o_val (v_move rfl) rfl ?_
    refine o_callI (u_sidesG p c B R hR hB hl hcap (by omega)) W.b426 W.me208_426 rfl rfl (.cons (by repeat first | exact .head | apply Rem.tail) .nil) rfl ?_
    rintro _ _ ⟨rfl, rfl⟩
    refine o_val (v_move rfl) rfl ?_
    refine o_val (v_extract rfl rfl) rfl ?_
    refine o_val (v_extract rfl rfl) rfl ?_
    refine o_val (v_assign rfl) rfl ?_
    refine o_val (v_assign rfl) rfl ?_
    refine o_nil ?_
    refine thn_n ?_
    refine w_seq ?_
    refine w_seq ?_
    refine w_region ?_
    refine o_val (v_move rfl) rfl ?_
    refine o_val (v_move rfl) rfl ?_
    refine o_call (a_size (UsP.lo B 6 2) (UsP.lo B 8 2)) W.b74  rfl .nil rfl ?_
    rintro _ _ ⟨rfl, rfl⟩
    refine o_val (v_assign rfl) rfl ?_
    refine o_nil ?_
    refine thn_n ?_
    rcases (Classical.em ((UsP.sizeE (UsP.lo B 6 2) (UsP.lo B 8 2)) = 0)) with hs | hs
    ·
      refine w_seq ?_
      refine w_region ?_
      refine o_val (v_move rfl) rfl ?_
      refine o_val (v_F (v_neq rfl rfl) (fun h => h hs)) rfl ?_
      refine o_nil ?_
      refine thn_n ?_
      refine w_condF rfl ?_
      refine w_skip ?_
      refine thn_n ?_
      refine w_seq ?_
      refine w_region ?_
      refine o_val (v_move rfl) rfl ?_
      refine o_val (v_move rfl) rfl ?_
      refine o_val (v_assign rfl) rfl ?_
      refine o_val (v_assign rfl) rfl ?_
      refine o_val (v_assign rfl) rfl ?_
      refine o_nil ?_
      refine thn_n ?_
      refine w_ret ?_
      obtain ⟨e1, e2, e3⟩ := UsP.pk_yes ((UsP.err_s hk (by decide) (UsP.lst2 hk) hlt (UsP.sid2 hk)).trans hs) (UsP.sid2 hk)
      exact ret_ok (G := [R]) (res3 rfl rfl rfl) ⟨by rw [e1, e2, e3] <;> rfl, rfl⟩ (sub (.cons (by repeat first | exact .head | apply Rem.tail) .nil) (by repeat first | exact .refl | apply Drop.skip))
    ·
      refine w_seq ?_
      refine w_region ?_
      refine o_val (v_move rfl) rfl ?_
      refine o_val (v_T (v_neq rfl rfl) hs) rfl ?_
      refine o_nil ?_
      refine thn_n ?_
      refine w_condT rfl ?_
      refine w_seq ?_
      refine w_region ?_
      refine o_val (v_move rfl) rfl ?_
      refine o_val (v_assign rfl) rfl ?_
      refine o_val (v_assign rfl) rfl ?_
      refine o_val (v_assign rfl) rfl ?_
      refine o_nil ?_
      refine thn_n ?_
      refine w_ret ?_
      refine (thn_r ?_)
      obtain ⟨e1, e2, e3⟩ := UsP.pk_no (UsP.err_s hk (by decide) (UsP.lst2 hk) hlt (UsP.sid2 hk)) hs
      exact ret_ok (G := [R]) (res3 rfl rfl rfl) ⟨by rw [e1, e2, e3] <;> rfl, rfl⟩ (sub (.cons (by repeat first | exact .head | apply Rem.tail) .nil) (by repeat first | exact .refl | apply Drop.skip))
set_option maxHeartbeats 1000000 in
theorem u_peek3 (p : Option Addr) (c : Nat) (B : List Int) (R : HProp) (hR : ∀ w0 h, R w0 h → RdR U5 p B.length B w0 h) (hB : BitP.Byt B) (hl : B.length < 500000000) (hcap : B.length ≤ c) (hk : UsP.kind B = 3) : Ctr Tryz.prog 23 [.slice p B.length c] [R] (Ret fun v G => v = .tuple #[.int .i64 (UsP.pw B), .int .i64 (UsP.ph B), .int .i64 (UsP.err B)] ∧ G = [R]) := by
  refine spec_of [(0, _)] Tryz.func23 rfl Tryz.ntmps23 rfl rfl ?_
  intro w0 F
  refine w_seq ?_
  refine w_region ?_
  refine o_val (v_assign rfl) rfl ?_
  refine o_val (v_assign rfl) rfl ?_
  refine o_val (v_assign rfl) rfl ?_
  refine o_nil ?_
  refine thn_n ?_
  refine w_seq ?_
  refine w_region ?_
  refine o_val (v_move rfl) rfl ?_
  refine o_call (u_kind p c B R hR hB hl hcap) W.b25  rfl (.cons (by repeat first | exact .head | apply Rem.tail) .nil) rfl ?_
  rintro _ _ ⟨rfl, rfl⟩
  refine o_call (u_of3 (UsP.kind B : Int) (by omega)) W.b73  rfl .nil rfl ?_
  rintro _ _ ⟨rfl, rfl⟩
  refine o_val (v_move rfl) rfl ?_
  refine o_val (v_extract rfl rfl) rfl ?_
  refine o_val (v_extract rfl rfl) rfl ?_
  refine o_val (v_assign rfl) rfl ?_
  refine o_val (v_assign rfl) rfl ?_
  refine o_nil ?_
  refine thn_n ?_
  refine w_seq ?_
  refine w_block ?_
  refine w_seq ?_
  refine w_region ?_
  refine o_val (v_move rfl) rfl ?_
  refine o_val (v_to (v := .bool false) (v_not rfl) rfl) rfl ?_
  refine o_val (v_assign rfl) rfl ?_
  refine o_nil ?_
  refine thn_n ?_
  refine w_condF rfl ?_
  rcases (Classical.em (B.length < 26)) with hlt | hlt
  ·
    refine w_seq ?_
    refine w_region ?_
    refine o_val (v_move rfl) rfl ?_
    refine o_val (v_len (ty' := 0) Tryz.underlying28 rfl) rfl ?_
    refine o_val (v_move rfl) rfl ?_
    refine o_callI (u_leastB) W.b477 W.me209_477 rfl rfl .nil rfl ?_
    rintro _ _ ⟨rfl, rfl⟩
    refine o_val (v_T (v_lss rfl rfl) (by omega)) rfl ?_
    refine o_val (v_assign rfl) rfl ?_
    refine o_nil ?_
    refine thn_n ?_
    refine w_condT rfl ?_
    refine w_seq ?_
    refine w_region ?_
    refine o_val (v_assign rfl) rfl ?_
    refine o_val (v_assign rfl) rfl ?_
    refine o_val (v_assign rfl) rfl ?_
    refine o_nil ?_
    refine thn_n ?_
    refine w_ret ?_
    refine (blk_r (thn_r ?_))
    obtain ⟨e1, e2, e3⟩ := UsP.pk_no (UsP.err_2 hk (by decide) (UsP.lst3 hk) hlt) (by decide)
    exact ret_ok (G := [R]) (res3 rfl rfl rfl) ⟨by rw [e1, e2, e3] <;> rfl, rfl⟩ (sub (.cons (by repeat first | exact .head | apply Rem.tail) .nil) (by repeat first | exact .refl | apply Drop.skip))
  ·
    refine w_seq ?_
    refine w_region ?_
    refine o_val (v_move rfl) rfl ?_
    refine o_val (v_len (ty' := 0) Tryz.underlying28 rfl) rfl ?_
    refine o_val (v_move rfl) rfl ?_
    refine o_callI (u_leastB) W.b477 W.me209_477 rfl rfl .nil rfl ?_
    rintro _ _ ⟨rfl, rfl⟩
    refine o_val (v_F (v_lss rfl rfl) (by omega)) rfl ?_
    refine o_val (v_assign rfl) rfl ?_
    refine o_nil ?_
    refine thn_n ?_
    refine w_condF rfl ?_
    refine w_skip ?_
    refine blk_n ?_
    refine thn_n ?_
    refine w_seq ?_
    refine w_region ?_
    refine o_val (v_move rfl) rfl ?_
    refine o_val (v_move rfl) rfl ?_
    refine o_callI (u_sidesB p c B R hR hB hl hcap (by omega)) W.b478 W.me209_478 rfl rfl (.cons (by repeat first | exact .head | apply Rem.tail) .nil) rfl ?_
    rintro _ _ ⟨rfl, rfl⟩
    refine o_val (v_move rfl) rfl ?_
    refine o_val (v_extract rfl rfl) rfl ?_
    refine o_val (v_extract rfl rfl) rfl ?_
    refine o_val (v_assign rfl) rfl ?_
    refine o_val (v_assign rfl) rfl ?_
    refine o_nil ?_
    refine thn_n ?_
    refine w_seq ?_
    refine w_seq ?_
    refine w_region ?_
    refine o_val (v_move rfl) rfl ?_
    refine o_val (v_move rfl) rfl ?_
    refine o_call (a_size (UsP.sg (UsP.lo B 18 4)) (max (UsP.sg (UsP.lo B 22 4)) (0 - (UsP.sg (UsP.lo B 22 4))))) W.b74  rfl .nil rfl ?_
    rintro _ _ ⟨rfl, rfl⟩
    refine o_val (v_assign rfl) rfl ?_
    refine o_nil ?_
    refine thn_n ?_
    rcases (Classical.em ((UsP.sizeE (UsP.sg (UsP.lo B 18 4)) (max (UsP.sg (UsP.lo B 22 4)) (0 - (UsP.sg (UsP.lo B 22 4))))) = 0)) with hs | hs
    ·
      refine w_seq ?_
      refine w_region ?_
      refine o_val (v_move rfl) rfl ?_
      refine o_val (v_F (v_neq rfl rfl) (fun h => h hs)) rfl ?_
      refine o_nil ?_
      refine thn_n ?_
      refine w_condF rfl ?_
      refine w_skip ?_
      refine thn_n ?_
      refine w_seq ?_
      refine w_region ?_
      refine o_val (v_move rfl) rfl ?_
      refine o_val (v_move rfl) rfl ?_
      refine o_val (v_assign rfl) rfl ?_
      refine o_val (v_assign rfl) rfl ?_
      refine o_val (v_assign rfl) rfl ?_
      refine o_nil ?_
      refine thn_n ?_
      refine w_ret ?_
      obtain ⟨e1, e2, e3⟩ := UsP.pk_yes ((UsP.err_s hk (by decide) (UsP.lst3 hk) hlt (UsP.sid3 hk)).trans hs) (UsP.sid3 hk)
      exact ret_ok (G := [R]) (res3 rfl rfl rfl) ⟨by rw [e1, e2, e3] <;> rfl, rfl⟩ (sub (.cons (by repeat first | exact .head | apply Rem.tail) .nil) (by repeat first | exact .refl | apply Drop.skip))
    ·
      refine w_seq ?_
      refine w_region ?_
      refine o_val (v_move rfl) rfl ?_
      refine o_val (v_T (v_neq rfl rfl) hs) rfl ?_
      refine o_nil ?_
      refine thn_n ?_
      refine w_condT rfl ?_
      refine w_seq ?_
      refine w_region ?_
      refine o_val (v_move rfl) rfl ?_
      refine o_val (v_assign rfl) rfl ?_
      refine o_val (v_assign rfl) rfl ?_
      refine o_val (v_assign rfl) rfl ?_
      refine o_nil ?_
      refine thn_n ?_
      refine w_ret ?_
      refine (thn_r ?_)
      obtain ⟨e1, e2, e3⟩ := UsP.pk_no (UsP.err_s hk (by decide) (UsP.lst3 hk) hlt (UsP.sid3 hk)) hs
      exact ret_ok (G := [R]) (res3 rfl rfl rfl) ⟨by rw [e1, e2, e3] <;> rfl, rfl⟩ (sub (.cons (by repeat first | exact .head | apply Rem.tail) .nil) (by repeat first | exact .refl | apply Drop.skip))
theorem u_peek (p : Option Addr) (c : Nat) (B : List Int) (R : HProp) (hR : ∀ w0 h, R w0 h → RdR U5 p B.length B w0 h) (hB : BitP.Byt B) (hl : B.length < 500000000) (hcap : B.length ≤ c) : Ctr Tryz.prog 23 [.slice p B.length c] [R] (Ret fun v G => v = .tuple #[.int .i64 (UsP.pw B), .int .i64 (UsP.ph B), .int .i64 (UsP.err B)] ∧ G = [R]) := by
  rcases UsP.kind_or B with h | h | h | h
  · exact u_peek0 p c B R hR hB hl hcap h
  · exact u_peek1 p c B R hR hB hl hcap h
  · exact u_peek2 p c B R hR hB hl hcap h
  · exact u_peek3 p c B R hR hB hl hcap h
set_option maxHeartbeats 1000000 in
theorem d_peek0 (p : Option Addr) (c : Nat) (B : List Int) (R : HProp) (hR : ∀ w0 h, R w0 h → RdR U5 p B.length B w0 h) (hB : BitP.Byt B) (hl : B.length < 500000000) (hcap : B.length ≤ c) (hk : UsP.kind B = 0) : Ctr Tryz.prog 24 [.slice p B.length c] [R] (Ret fun v G => v = .tuple #[.int .i64 (UsP.pw B), .int .i64 (UsP.ph B), .int .i64 (UsP.err B)] ∧ G = [R]) := by
  refine spec_of [(0, _)] Tryz.func24 rfl Tryz.ntmps24 rfl rfl ?_
  intro w0 F
  refine w_seq ?_
  refine w_region ?_
  refine o_val (v_assign rfl) rfl ?_
  refine o_val (v_assign rfl) rfl ?_
  refine o_val (v_assign rfl) rfl ?_
  refine o_nil ?_
  refine thn_n ?_
  refine w_seq ?_
  refine w_region ?_
  refine o_val (v_assign rfl) rfl ?_
  refine o_val (v_assign rfl) rfl ?_
  refine o_nil ?_
  refine thn_n ?_
  refine w_seq ?_
  refine w_seq ?_
  refine w_region ?_
  refine o_val (v_move rfl) rfl ?_
  refine o_call (d_kind p c B R hR hB hl hcap) W.b26  rfl (.cons (by repeat first | exact .head | apply Rem.tail) .nil) rfl ?_
  rintro _ _ ⟨rfl, rfl⟩
  refine o_nil ?_
  refine thn_n ?_
  refine w_block ?_
  refine w_seq ?_
  refine w_region ?_
  refine o_val (v_T (v_eql rfl rfl) (by omega)) rfl ?_
  refine o_val (v_assign rfl) rfl ?_
  refine o_nil ?_
  refine thn_n ?_
  refine w_condT rfl ?_
  refine w_seq ?_
  refine w_region ?_
  refine o_val (v_assign rfl) rfl ?_
  refine o_val (v_assign rfl) rfl ?_
  refine o_val (v_assign rfl) rfl ?_
  refine o_nil ?_
  refine thn_n ?_
  refine w_ret ?_
  refine (blk_r (thn_r ?_))
  obtain ⟨e1, e2, e3⟩ := UsP.pk_no (UsP.err_7 hk) (by decide)
  exact ret_ok (G := [R]) (res3 rfl rfl rfl) ⟨by rw [e1, e2, e3] <;> rfl, rfl⟩ (sub (.cons (by repeat first | exact .head | apply Rem.tail) .nil) (by repeat first | exact .refl | apply Drop.skip))
set_option maxHeartbeats 1000000 in
theorem d_peek1 (p : Option Addr) (c : Nat) (B : List Int) (R : HProp) (hR : ∀ w0 h, R w0 h → RdR U5 p B.length B w0 h) (hB : BitP.Byt B) (hl : B.length < 500000000) (hcap : B.length ≤ c) (hk : UsP.kind B = 1) : Ctr Tryz.prog 24 [.slice p B.length c] [R] (Ret fun v G => v = .tuple #[.int .i64 (UsP.pw B), .int .i64 (UsP.ph B), .int .i64 (UsP.err B)] ∧ G = [R]) := by
  refine spec_of [(0, _)] Tryz.func24 rfl Tryz.ntmps24 rfl rfl ?_
  intro w0 F
  refine w_seq ?_
  refine w_region ?_
  refine o_val (v_assign rfl) rfl ?_
  refine o_val (v_assign rfl) rfl ?_
  refine o_val (v_assign rfl) rfl ?_
  refine o_nil ?_
  refine thn_n ?_
  refine w_seq ?_
  refine w_region ?_
  refine o_val (v_assign rfl) rfl ?_
  refine o_val (v_assign rfl) rfl ?_
  refine o_nil ?_
  refine thn_n ?_
  refine w_seq ?_
  refine w_seq ?_
  refine w_region ?_
  refine o_val (v_move rfl) rfl ?_
  refine o_call (d_kind p c B R hR hB hl hcap) W.b26  rfl (.cons (by repeat first | exact .head | apply Rem.tail) .nil) rfl ?_
  rintro _ _ ⟨rfl, rfl⟩
  refine o_nil ?_
  refine thn_n ?_
  refine w_block ?_
  refine w_seq ?_
  refine w_region ?_
  refine o_val (v_F (v_eql rfl rfl) (by omega)) rfl ?_
  refine o_val (v_assign rfl) rfl ?_
  refine o_nil ?_
  refine thn_n ?_
  refine w_condF rfl ?_
  refine w_seq ?_
  refine w_region ?_
  refine o_val (v_F (v_eql rfl rfl) (by omega)) rfl ?_
  refine o_val (v_assign rfl) rfl ?_
  refine o_nil ?_
  refine thn_n ?_
  refine w_condF rfl ?_
  refine w_seq ?_
  refine w_region ?_
  refine o_val (v_T (v_eql rfl rfl) (by omega)) rfl ?_
  refine o_val (v_assign rfl) rfl ?_
  refine o_nil ?_
  refine thn_n ?_
  refine w_condT rfl ?_
  rcases (Classical.em (B.length < 26)) with hlt | hlt
  ·
    refine w_seq ?_
    refine w_seq ?_
    refine w_region ?_
    refine o_val (v_move rfl) rfl ?_
    refine o_val (v_len (ty' := 0) Tryz.underlying28 rfl) rfl ?_
    refine o_val (v_T (v_lss rfl rfl) (by omega)) rfl ?_
    refine o_nil ?_
    refine thn_n ?_
    refine w_condT rfl ?_
    refine w_seq ?_
    refine w_region ?_
    refine o_val (v_assign rfl) rfl ?_
    refine o_val (v_assign rfl) rfl ?_
    refine o_val (v_assign rfl) rfl ?_
    refine o_nil ?_
    refine thn_n ?_
    refine w_ret ?_
    refine (thn_r (blk_r (thn_r ?_)))
    obtain ⟨e1, e2, e3⟩ := UsP.pk_no (UsP.err_2 hk (by decide) (UsP.lst1 hk) hlt) (by decide)
    exact ret_ok (G := [R]) (res3 rfl rfl rfl) ⟨by rw [e1, e2, e3] <;> rfl, rfl⟩ (sub (.cons (by repeat first | exact .head | apply Rem.tail) .nil) (by repeat first | exact .refl | apply Drop.skip))
  ·
    refine w_seq ?_
    refine w_seq ?_
    refine w_region ?_
    refine o_val (v_move rfl) rfl ?_
    refine o_val (v_len (ty' := 0) Tryz.underlying28 rfl) rfl ?_
    refine o_val (v_F (v_lss rfl rfl) (by omega)) rfl ?_
    refine o_nil ?_
    refine thn_n ?_
    refine w_condF rfl ?_
    refine w_skip ?_
    refine thn_n ?_
    refine w_region ?_
    refine o_val (v_move rfl) rfl ?_
    refine o_call (d_high p c B R hR hB hl hcap 16 4 (by decide) (by omega)) W.b76  rfl (.cons (by repeat first | exact .head | apply Rem.tail) .nil) rfl ?_
    rintro _ _ ⟨rfl, rfl⟩
    refine o_val (v_move rfl) rfl ?_
    refine o_call (d_high p c B R hR hB hl hcap 20 4 (by decide) (by omega)) W.b76  rfl (.cons (by repeat first | exact .head | apply Rem.tail) .nil) rfl ?_
    rintro _ _ ⟨rfl, rfl⟩
    refine o_val (v_assign rfl) rfl ?_
    refine o_val (v_assign rfl) rfl ?_
    refine o_nil ?_
    refine blk_n ?_
    refine thn_n ?_
    refine w_seq ?_
    refine w_region ?_
    refine o_val (v_move rfl) rfl ?_
    refine o_val (v_move rfl) rfl ?_
    refine o_call (d_size (UsP.hi B 16 4) (UsP.hi B 20 4)) W.b78  rfl .nil rfl ?_
    rintro _ _ ⟨rfl, rfl⟩
    refine o_val (v_assign rfl) rfl ?_
    refine o_nil ?_
    refine thn_n ?_
    rcases (Classical.em ((UsP.sizeE (UsP.hi B 16 4) (UsP.hi B 20 4)) = 0)) with hs | hs
    ·
      refine w_seq ?_
      refine w_seq ?_
      refine w_region ?_
      refine o_val (v_move rfl) rfl ?_
      refine o_val (v_F (v_neq rfl rfl) (fun h => h hs)) rfl ?_
      refine o_nil ?_
      refine thn_n ?_
      refine w_condF rfl ?_
      refine w_skip ?_
      refine thn_n ?_
      refine w_seq ?_
      refine w_region ?_
      refine o_val (v_move rfl) rfl ?_
      refine o_val (v_move rfl) rfl ?_
      refine o_val (v_assign rfl) rfl ?_
      refine o_val (v_assign rfl) rfl ?_
      refine o_val (v_assign rfl) rfl ?_
      refine o_nil ?_
      refine thn_n ?_
      refine w_ret ?_
      obtain ⟨e1, e2, e3⟩ := UsP.pk_yes ((UsP.err_s hk (by decide) (UsP.lst1 hk) hlt (UsP.sid1 hk)).trans hs) (UsP.sid1 hk)
      exact ret_ok (G := [R]) (res3 rfl rfl rfl) ⟨by rw [e1, e2, e3] <;> rfl, rfl⟩ (sub (.cons (by repeat first | exact .head | apply Rem.tail) .nil) (by repeat first | exact .refl | apply Drop.skip))
    ·
      refine w_seq ?_
      refine w_seq ?_
      refine w_region ?_
      refine o_val (v_move rfl) rfl ?_
      refine o_val (v_T (v_neq rfl rfl) hs) rfl ?_
      refine o_nil ?_
      refine thn_n ?_
      refine w_condT rfl ?_
      refine w_seq ?_
      refine w_region ?_
      refine o_val (v_move rfl) rfl ?_
      refine o_val (v_assign rfl) rfl ?_
      refine o_val (v_assign rfl) rfl ?_
      refine o_val (v_assign rfl) rfl ?_
      refine o_nil ?_
      refine thn_n ?_
      refine w_ret ?_
      refine (thn_r ?_)
      obtain ⟨e1, e2, e3⟩ := UsP.pk_no (UsP.err_s hk (by decide) (UsP.lst1 hk) hlt (UsP.sid1 hk)) hs
      exact ret_ok (G := [R]) (res3 rfl rfl rfl) ⟨by rw [e1, e2, e3] <;> rfl, rfl⟩ (sub (.cons (by repeat first | exact .head | apply Rem.tail) .nil) (by repeat first | exact .refl | apply Drop.skip))
set_option maxHeartbeats 1000000 in
theorem d_peek2 (p : Option Addr) (c : Nat) (B : List Int) (R : HProp) (hR : ∀ w0 h, R w0 h → RdR U5 p B.length B w0 h) (hB : BitP.Byt B) (hl : B.length < 500000000) (hcap : B.length ≤ c) (hk : UsP.kind B = 2) : Ctr Tryz.prog 24 [.slice p B.length c] [R] (Ret fun v G => v = .tuple #[.int .i64 (UsP.pw B), .int .i64 (UsP.ph B), .int .i64 (UsP.err B)] ∧ G = [R]) := by
  refine spec_of [(0, _)] Tryz.func24 rfl Tryz.ntmps24 rfl rfl ?_
  intro w0 F
  refine w_seq ?_
  refine w_region ?_
  refine o_val (v_assign rfl) rfl ?_
  refine o_val (v_assign rfl) rfl ?_
  refine o_val (v_assign rfl) rfl ?_
  refine o_nil ?_
  refine thn_n ?_
  refine w_seq ?_
  refine w_region ?_
  refine o_val (v_assign rfl) rfl ?_
  refine o_val (v_assign rfl) rfl ?_
  refine o_nil ?_
  refine thn_n ?_
  refine w_seq ?_
  refine w_seq ?_
  refine w_region ?_
  refine o_val (v_move rfl) rfl ?_
  refine o_call (d_kind p c B R hR hB hl hcap) W.b26  rfl (.cons (by repeat first | exact .head | apply Rem.tail) .nil) rfl ?_
  rintro _ _ ⟨rfl, rfl⟩
  refine o_nil ?_
  refine thn_n ?_
  refine w_block ?_
  refine w_seq ?_
  refine w_region ?_
  refine o_val (v_F (v_eql rfl rfl) (by omega)) rfl ?_
  refine o_val (v_assign rfl) rfl ?_
  refine o_nil ?_
  refine thn_n ?_
  refine w_condF rfl ?_
  refine w_seq ?_
  refine w_region ?_
  refine o_val (v_T (v_eql rfl rfl) (by omega)) rfl ?_
  refine o_val (v_assign rfl) rfl ?_
  refine o_nil ?_
  refine thn_n ?_
  refine w_condT rfl ?_
  rcases (Classical.em (B.length < 10)) with hlt | hlt
  ·
    refine w_seq ?_
    refine w_seq ?_
    refine w_region ?_
    refine o_val (v_move rfl) rfl ?_
    refine o_val (v_len (ty' := 0) Tryz.underlying28 rfl) rfl ?_
    refine o_val (v_T (v_lss rfl rfl) (by omega)) rfl ?_
    refine o_nil ?_
    refine thn_n ?_
    refine w_condT rfl ?_
    refine w_seq ?_
    refine w_region ?_
    refine o_val (v_assign rfl) rfl ?_
    refine o_val (v_assign rfl) rfl ?_
    refine o_val (v_assign rfl) rfl ?_
    refine o_nil ?_
    refine thn_n ?_
    refine w_ret ?_
    refine (thn_r (blk_r (thn_r ?_)))
    obtain ⟨e1, e2, e3⟩ := UsP.pk_no (UsP.err_2 hk (by decide) (UsP.lst2 hk) hlt) (by decide)
    exact ret_ok (G := [R]) (res3 rfl rfl rfl) ⟨by rw [e1, e2, e3] <;> rfl, rfl⟩ (sub (.cons (by repeat first | exact .head | apply Rem.tail) .nil) (by repeat first | exact .refl | apply Drop.skip))
  ·
    refine w_seq ?_
    refine w_seq ?_
    refine w_region ?_
    refine o_val (v_move rfl) rfl ?_
    refine o_val (v_len (ty' := 0) Tryz.underlying28 rfl) rfl ?_
    refine o_val (v_F (v_lss rfl rfl) (by omega)) rfl ?_
    refine o_nil ?_
    refine thn_n ?_
    refine w_condF rfl ?_
    refine w_skip ?_
    refine thn_n ?_
    refine w_region ?_
    refine o_val (v_move rfl) rfl ?_
    refine o_call (d_low p c B R hR hB hl hcap 6 2 (by decide) (by omega)) W.b75  rfl (.cons (by repeat first | exact .head | apply Rem.tail) .nil) rfl ?_
    rintro _ _ ⟨rfl, rfl⟩
    rw [UsP.dn_2]
    refine o_val (v_move rfl) rfl ?_
    refine o_call (d_low p c B R hR hB hl hcap 8 2 (by decide) (by omega)) W.b75  rfl (.cons (by repeat first | exact .head | apply Rem.tail) .nil) rfl ?_
    rintro _ _ ⟨rfl, rfl⟩
    rw [UsP.dn_2]
    refine o_val (v_assign rfl) rfl ?_
    refine o_val (v_assign rfl) rfl ?_
    refine o_nil ?_
    refine blk_n ?_
    refine thn_n ?_
    refine w_seq ?_
    refine w_region ?_
    refine o_val (v_move rfl) rfl ?_
    refine o_val (v_move rfl) rfl ?_
    refine o_call (d_size (UsP.lo B 6 2) (UsP.lo B 8 2)) W.b78  rfl .nil rfl ?_
    rintro _ _ ⟨rfl, rfl⟩
    refine o_val (v_assign rfl) rfl ?_
    refine o_nil ?_
    refine thn_n ?_
    rcases (Classical.em ((UsP.sizeE (UsP.lo B 6 2) (UsP.lo B 8 2)) = 0)) with hs | hs
    ·
      refine w_seq ?_
      refine w_seq ?_
      refine w_region ?_
      refine o_val (v_move rfl) rfl ?_
      refine o_val (v_F (v_neq rfl rfl) (fun h => h hs)) rfl ?_
      refine o_nil ?_
      refine thn_n ?_
      refine w_condF rfl ?_
      refine w_skip ?_
      refine thn_n ?_
      refine w_seq ?_
      refine w_region ?_
      refine o_val (v_move rfl) rfl ?_
      refine o_val (v_move rfl) rfl ?_
      refine o_val (v_assign rfl) rfl ?_
      refine o_val (v_assign rfl) rfl ?_
      refine o_val (v_assign rfl) rfl ?_
      refine o_nil ?_
      refine thn_n ?_
      refine w_ret ?_
      obtain ⟨e1, e2, e3⟩ := UsP.pk_yes ((UsP.err_s hk (by decide) (UsP.lst2 hk) hlt (UsP.sid2 hk)).trans hs) (UsP.sid2 hk)
      exact ret_ok (G := [R]) (res3 rfl rfl rfl) ⟨by rw [e1, e2, e3] <;> rfl, rfl⟩ (sub (.cons (by repeat first | exact .head | apply Rem.tail) .nil) (by repeat first | exact .refl | apply Drop.skip))
    ·
      refine w_seq ?_
      refine w_seq ?_
      refine w_region ?_
      refine o_val (v_move rfl) rfl ?_
      refine o_val (v_T (v_neq rfl rfl) hs) rfl ?_
      refine o_nil ?_
      refine thn_n ?_
      refine w_condT rfl ?_
      refine w_seq ?_
      refine w_region ?_
      refine o_val (v_move rfl) rfl ?_
      refine o_val (v_assign rfl) rfl ?_
      refine o_val (v_assign rfl) rfl ?_
      refine o_val (v_assign rfl) rfl ?_
      refine o_nil ?_
      refine thn_n ?_
      refine w_ret ?_
      refine (thn_r ?_)
      obtain ⟨e1, e2, e3⟩ := UsP.pk_no (UsP.err_s hk (by decide) (UsP.lst2 hk) hlt (UsP.sid2 hk)) hs
      exact ret_ok (G := [R]) (res3 rfl rfl rfl) ⟨by rw [e1, e2, e3] <;> rfl, rfl⟩ (sub (.cons (by repeat first | exact .head | apply Rem.tail) .nil) (by repeat first | exact .refl | apply Drop.skip))
set_option maxHeartbeats 1000000 in
theorem d_peek3 (p : Option Addr) (c : Nat) (B : List Int) (R : HProp) (hR : ∀ w0 h, R w0 h → RdR U5 p B.length B w0 h) (hB : BitP.Byt B) (hl : B.length < 500000000) (hcap : B.length ≤ c) (hk : UsP.kind B = 3) : Ctr Tryz.prog 24 [.slice p B.length c] [R] (Ret fun v G => v = .tuple #[.int .i64 (UsP.pw B), .int .i64 (UsP.ph B), .int .i64 (UsP.err B)] ∧ G = [R]) := by
  refine spec_of [(0, _)] Tryz.func24 rfl Tryz.ntmps24 rfl rfl ?_
  intro w0 F
  have hsg := UsP.sg_in (UsP.lo B 22 4)
  refine w_seq ?_
  refine w_region ?_
  refine o_val (v_assign rfl) rfl ?_
  refine o_val (v_assign rfl) rfl ?_
  refine o_val (v_assign rfl) rfl ?_
  refine o_nil ?_
  refine thn_n ?_
  refine w_seq ?_
  refine w_region ?_
  refine o_val (v_assign rfl) rfl ?_
  refine o_val (v_assign rfl) rfl ?_
  refine o_nil ?_
  refine thn_n ?_
  refine w_seq ?_
  refine w_seq ?_
  refine w_region ?_
  refine o_val (v_move rfl) rfl ?_
  refine o_call (d_kind p c B R hR hB hl hcap) W.b26  rfl (.cons (by repeat first | exact .head | apply Rem.tail) .nil) rfl ?_
  rintro _ _ ⟨rfl, rfl⟩
  refine o_nil ?_
  refine thn_n ?_
  refine w_block ?_
  refine w_seq ?_
  refine w_region ?_
  refine o_val (v_F (v_eql rfl rfl) (by omega)) rfl ?_
  refine o_val (v_assign rfl) rfl ?_
  refine o_nil ?_
  refine thn_n ?_
  refine w_condF rfl ?_
  refine w_seq ?_
  refine w_region ?_
  refine o_val (v_F (v_eql rfl rfl) (by omega)) rfl ?_
  refine o_val (v_assign rfl) rfl ?_
  refine o_nil ?_
  refine thn_n ?_
  refine w_condF rfl ?_
  refine w_seq ?_
  refine w_region ?_
  refine o_val (v_F (v_eql rfl rfl) (by omega)) rfl ?_
  refine o_val (v_assign rfl) rfl ?_
  refine o_nil ?_
  refine thn_n ?_
  refine w_condF rfl ?_
  rcases (Classical.em (B.length < 26)) with hlt | hlt
  ·
    refine w_seq ?_
    refine w_seq ?_
    refine w_region ?_
    refine o_val (v_move rfl) rfl ?_
    refine o_val (v_len (ty' := 0) Tryz.underlying28 rfl) rfl ?_
    refine o_val (v_T (v_lss rfl rfl) (by omega)) rfl ?_
    refine o_nil ?_
    refine thn_n ?_
    refine w_condT rfl ?_
    refine w_seq ?_
    refine w_region ?_
    refine o_val (v_assign rfl) rfl ?_
    refine o_val (v_assign rfl) rfl ?_
    refine o_val (v_assign rfl) rfl ?_
    refine o_nil ?_
    refine thn_n ?_
    refine w_ret ?_
    refine (thn_r (blk_r (thn_r ?_)))
    obtain ⟨e1, e2, e3⟩ := UsP.pk_no (UsP.err_2 hk (by decide) (UsP.lst3 hk) hlt) (by decide)
    exact ret_ok (G := [R]) (res3 rfl rfl rfl) ⟨by rw [e1, e2, e3] <;> rfl, rfl⟩ (sub (.cons (by repeat first | exact .head | apply Rem.tail) .nil) (by repeat first | exact .refl | apply Drop.skip))
  ·
    refine w_seq ?_
    refine w_seq ?_
    refine w_region ?_
    refine o_val (v_move rfl) rfl ?_
    refine o_val (v_len (ty' := 0) Tryz.underlying28 rfl) rfl ?_
    refine o_val (v_F (v_lss rfl rfl) (by omega)) rfl ?_
    refine o_nil ?_
    refine thn_n ?_
    refine w_condF rfl ?_
    refine w_skip ?_
    refine thn_n ?_
    refine w_seq ?_
    refine w_region ?_
    refine o_val (v_move rfl) rfl ?_
    refine o_call (d_signed p c B R hR hB hl hcap 18 (by omega)) W.b77  rfl (.cons (by repeat first | exact .head | apply Rem.tail) .nil) rfl ?_
    rintro _ _ ⟨rfl, rfl⟩
    refine o_val (v_move rfl) rfl ?_
    refine o_call (d_signed p c B R hR hB hl hcap 22 (by omega)) W.b77  rfl (.cons (by repeat first | exact .head | apply Rem.tail) .nil) rfl ?_
    rintro _ _ ⟨rfl, rfl⟩
    refine o_val (v_assign rfl) rfl ?_
    refine o_val (v_assign rfl) rfl ?_
    refine o_nil ?_
    refine thn_n ?_
    refine w_region ?_
    refine o_val (v_move rfl) rfl ?_
    refine o_val (v_move rfl) rfl ?_
    refine o_val (v_neg (n := 0 - (UsP.sg (UsP.lo B 22 4))) rfl (wrapI (by omega) (by omega))) rfl ?_
    refine o_val (v_to (v := .int .i64 (max (UsP.sg (UsP.lo B 22 4)) (0 - (UsP.sg (UsP.lo B 22 4))))) (v_max rfl rfl) (congrArg (Value.int .i64) (UsP.max_if _ _))) rfl ?_
    refine o_val (v_assign rfl) rfl ?_
    refine o_nil ?_
    refine blk_n ?_
    refine thn_n ?_
    refine w_seq ?_
    refine w_region ?_
    refine o_val (v_move rfl) rfl ?_
    refine o_val (v_move rfl) rfl ?_
    refine o_call (d_size (UsP.sg (UsP.lo B 18 4)) (max (UsP.sg (UsP.lo B 22 4)) (0 - (UsP.sg (UsP.lo B 22 4))))) W.b78  rfl .nil rfl ?_
    rintro _ _ ⟨rfl, rfl⟩
    refine o_val (v_assign rfl) rfl ?_
    refine o_nil ?_
    refine thn_n ?_
    rcases (Classical.em ((UsP.sizeE (UsP.sg (UsP.lo B 18 4)) (max (UsP.sg (UsP.lo B 22 4)) (0 - (UsP.sg (UsP.lo B 22 4))))) = 0)) with hs | hs
    ·
      refine w_seq ?_
      refine w_seq ?_
      refine w_region ?_
      refine o_val (v_move rfl) rfl ?_
      refine o_val (v_F (v_neq rfl rfl) (fun h => h hs)) rfl ?_
      refine o_nil ?_
      refine thn_n ?_
      refine w_condF rfl ?_
      refine w_skip ?_
      refine thn_n ?_
      refine w_seq ?_
      refine w_region ?_
      refine o_val (v_move rfl) rfl ?_
      refine o_val (v_move rfl) rfl ?_
      refine o_val (v_assign rfl) rfl ?_
      refine o_val (v_assign rfl) rfl ?_
      refine o_val (v_assign rfl) rfl ?_
      refine o_nil ?_
      refine thn_n ?_
      refine w_ret ?_
      obtain ⟨e1, e2, e3⟩ := UsP.pk_yes ((UsP.err_s hk (by decide) (UsP.lst3 hk) hlt (UsP.sid3 hk)).trans hs) (UsP.sid3 hk)
      exact ret_ok (G := [R]) (res3 rfl rfl rfl) ⟨by rw [e1, e2, e3] <;> rfl, rfl⟩ (sub (.cons (by repeat first | exact .head | apply Rem.tail) .nil) (by repeat first | exact .refl | apply Drop.skip))
    ·
      refine w_seq ?_
      refine w_seq ?_
      refine w_region ?_
      refine o_val (v_move rfl) rfl ?_
      refine o_val (v_T (v_neq rfl rfl) hs) rfl ?_
      refine o_nil ?_
      refine thn_n ?_
      refine w_condT rfl ?_
      refine w_seq ?_
      refine w_region ?_
      refine o_val (v_move rfl) rfl ?_
      refine o_val (v_assign rfl) rfl ?_
      refine o_val (v_assign rfl) rfl ?_
      refine o_val (v_assign rfl) rfl ?_
      refine o_nil ?_
      refine thn_n ?_
      refine w_ret ?_
      refine (thn_r ?_)
      obtain ⟨e1, e2, e3⟩ := UsP.pk_no (UsP.err_s hk (by decide) (UsP.lst3 hk) hlt (UsP.sid3 hk)) hs
      exact ret_ok (G := [R]) (res3 rfl rfl rfl) ⟨by rw [e1, e2, e3] <;> rfl, rfl⟩ (sub (.cons (by repeat first | exact .head | apply Rem.tail) .nil) (by repeat first | exact .refl | apply Drop.skip))
theorem d_peek (p : Option Addr) (c : Nat) (B : List Int) (R : HProp) (hR : ∀ w0 h, R w0 h → RdR U5 p B.length B w0 h) (hB : BitP.Byt B) (hl : B.length < 500000000) (hcap : B.length ≤ c) : Ctr Tryz.prog 24 [.slice p B.length c] [R] (Ret fun v G => v = .tuple #[.int .i64 (UsP.pw B), .int .i64 (UsP.ph B), .int .i64 (UsP.err B)] ∧ G = [R]) := by
  rcases UsP.kind_or B with h | h | h | h
  · exact d_peek0 p c B R hR hB hl hcap h
  · exact d_peek1 p c B R hR hB hl hcap h
  · exact d_peek2 p c B R hR hB hl hcap h
  · exact d_peek3 p c B R hR hB hl hcap h
end Go.Proofs.YtookicfejdbddaaGreat

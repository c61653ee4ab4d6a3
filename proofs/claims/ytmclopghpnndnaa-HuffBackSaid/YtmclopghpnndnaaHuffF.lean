/-
  Steps of the proof: walks of functions that the statement reaches; printed by a program of ours.
-/
import Derived.Test.YtmclopghpnndnaaM35
namespace Go.Proofs.Ytmclopghpnndnaa
open Go.Sl 
set_option linter.unusedVariables false
set_option linter.unusedSimpArgs false

theorem aw1 : HuffP.newE [2, 1, 3, 3] = 0 := by decide +kernel
theorem aw2 : HuffP.lkW [2, 1, 3, 3] 3 = 7 := by decide +kernel
theorem aw3 : HuffP.lkN [2, 1, 3, 3] 3 = 3 := by decide +kernel
theorem aw4 : HuffP.lkB [2, 1, 3, 3] 3 = true := by decide +kernel
theorem aw5 : HuffP.newE [1, 1, 1] = 4 := by decide +kernel



theorem h_new_yes (p : Option Addr) (cap : Nat) (ls : List Int) (R : HProp) (hR : ∀ w0 h, R w0 h → RdR I3 p ls.length ls w0 h) (hE : HuffP.newE ls = 0) : Ctr Try.prog 10 [.slice p ls.length cap] [R] (Ret fun v G => ∃ b, v = .tuple #[.pointer (some ⟨b, 0, none⟩), .int .i64 0] ∧ G = [HC b ls, R]) := by
  refine (h_new p cap ls R hR).mono ?_
  rintro e G ⟨v, rfl, h⟩
  rcases h with ⟨_, b, h1, h2⟩ | ⟨h, _⟩
  · exact ⟨v, rfl, b, h1, h2⟩
  · exact absurd hE h
theorem h_new_no (p : Option Addr) (cap : Nat) (ls : List Int) (R : HProp) (hR : ∀ w0 h, R w0 h → RdR I3 p ls.length ls w0 h) (hE : ¬ HuffP.newE ls = 0) : Ctr Try.prog 10 [.slice p ls.length cap] [R] (Ret fun v G => v = .tuple #[.pointer none, .int .i64 (HuffP.newE ls)] ∧ G = [R]) := by
  refine (h_new p cap ls R hR).mono ?_
  rintro e G ⟨v, rfl, h⟩
  rcases h with ⟨h, _⟩ | ⟨_, h1, h2⟩
  · exact absurd h hE
  · exact ⟨v, rfl, h1, h2⟩



theorem r_new_yes (p : Option Addr) (cap : Nat) (ls : List Int) (R : HProp) (hR : ∀ w0 h, R w0 h → RdR I3 p ls.length ls w0 h) (hE : HuffP.newE ls = 0) : Ctr Try.prog 11 [.slice p ls.length cap] [R] (Ret fun v G => ∃ b, v = .tuple #[.pointer (some ⟨b, 0, none⟩), .int .i64 0] ∧ G = [RC b ls, R]) := by
  refine (r_new p cap ls R hR).mono ?_
  rintro e G ⟨v, rfl, h⟩
  rcases h with ⟨_, b, h1, h2⟩ | ⟨h, _⟩
  · exact ⟨v, rfl, b, h1, h2⟩
  · exact absurd hE h
theorem r_new_no (p : Option Addr) (cap : Nat) (ls : List Int) (R : HProp) (hR : ∀ w0 h, R w0 h → RdR I3 p ls.length ls w0 h) (hE : ¬ HuffP.newE ls = 0) : Ctr Try.prog 11 [.slice p ls.length cap] [R] (Ret fun v G => v = .tuple #[.pointer none, .int .i64 (HuffP.newE ls)] ∧ G = [R]) := by
  refine (r_new p cap ls R hR).mono ?_
  rintro e G ⟨v, rfl, h⟩
  rcases h with ⟨h, _⟩ | ⟨_, h1, h2⟩
  · exact absurd h hE
  · exact ⟨v, rfl, h1, h2⟩


attribute [local irreducible] HuffP.newE HuffP.lkW HuffP.lkN HuffP.lkB

set_option maxRecDepth 100000 in
theorem awake  : Ctr Try.prog 9 [] [] (Ret fun v G => v = .bool true ∧ G = []) := by
  refine spec_of [] Try.func9 rfl Try.ntmps9 rfl rfl ?_
  intro w0 F
  have e1 := aw1
  have e2 := aw2
  have e3 := aw3
  have e4 := aw4
  have e5 := aw5
  refine w_seq ?_
  refine w_region ?_
  refine o_val (v_assign rfl) rfl ?_
  refine o_nil ?_
  refine thn_n ?_
  refine w_seq ?_
  refine w_region ?_
  refine r_build (I3) [2, 1, 3, 3] V.sl22 V.z3 rfl rfl rfl rfl rfl rfl ?_
  intro b9
  refine o_call (h_new_yes (some ⟨b9, 0, none⟩) 4 [2, 1, 3, 3] (Row I3 (some ⟨b9, 0, none⟩) 4 4 [2, 1, 3, 3]) (fun _ _ h => h.rd) e1) V.b10  rfl (.cons (by first | exact rr0 | exact rr1 | exact rr2 | exact rr3 | exact rr4 | exact rr5 | exact rr6 | exact rr7 | exact rr8 | exact rr9 | exact rr10 | exact rr11 | exact rr12 | exact rr13 | exact rr14) .nil) rfl ?_
  rintro _ _ ⟨b1, rfl, rfl⟩
  refine o_val (v_move rfl) rfl ?_
  refine o_val (v_extract rfl rfl) rfl ?_
  refine o_val (v_extract rfl rfl) rfl ?_
  refine o_val (v_assign rfl) rfl ?_
  refine o_val (v_assign rfl) rfl ?_
  refine o_nil ?_
  refine thn_n ?_
  refine w_seq ?_
  refine w_seq ?_
  refine w_region ?_
  refine o_val (v_move rfl) rfl ?_
  refine o_val (v_neq rfl rfl) rfl ?_
  refine o_val (v_move rfl) rfl ?_
  first | refine o_boolD 15 rfl (fun h15 => ?_) (fun h15 => ?_) | refine o_bool 15 rfl (fun h15 => ?_) (fun h15 => ?_)
  ·
    refine o_pass rfl rfl rfl ?_
    refine o_pass rfl rfl rfl ?_
    refine o_val (v_pickT rfl rfl) rfl ?_
    refine o_nil ?_
    refine thn_n ?_
    refine w_condT rfl ?_
    refine w_seq ?_
    refine w_region ?_
    refine o_val (v_assign rfl) rfl ?_
    refine o_nil ?_
    refine thn_n ?_
    refine w_ret ?_
    refine (thn_r ?_)
    exfalso
    omega
  ·
    refine o_want rfl ?_
    refine o_val (v_move rfl) rfl ?_
    refine o_want rfl ?_
    refine o_val (v_to (v := .bool false) (v_eqnil Try.underlying24 rfl rfl) rfl) rfl ?_
    refine o_val (v_pickF rfl rfl) rfl ?_
    refine o_nil ?_
    refine thn_n ?_
    refine w_condF rfl ?_
    refine w_skip ?_
    refine thn_n ?_
    refine w_seq ?_
    refine w_region ?_
    refine o_val (v_move rfl) rfl ?_
    refine o_call (h_word b1 [2, 1, 3, 3] 3) V.b12  rfl (.cons (by first | exact rr0 | exact rr1 | exact rr2 | exact rr3 | exact rr4 | exact rr5 | exact rr6 | exact rr7 | exact rr8 | exact rr9 | exact rr10 | exact rr11 | exact rr12 | exact rr13 | exact rr14) .nil) rfl ?_
    rintro _ _ ⟨rfl, rfl⟩
    rw [e2, e3, e4]
    refine o_val (v_move rfl) rfl ?_
    refine o_val (v_extract rfl rfl) rfl ?_
    refine o_val (v_extract rfl rfl) rfl ?_
    refine o_val (v_extract rfl rfl) rfl ?_
    refine o_val (v_assign rfl) rfl ?_
    refine o_val (v_assign rfl) rfl ?_
    refine o_val (v_assign rfl) rfl ?_
    refine o_nil ?_
    refine thn_n ?_
    refine w_seq ?_
    refine w_region ?_
    refine r_build (I3) [1, 1, 1] V.sl22 V.z3 rfl rfl rfl rfl rfl rfl ?_
    intro b26
    refine o_call (h_new_no (some ⟨b26, 0, none⟩) 3 [1, 1, 1] (Row I3 (some ⟨b26, 0, none⟩) 3 3 [1, 1, 1]) (fun _ _ h => h.rd) (by rw [e5]; decide)) V.b10  rfl (.cons (by first | exact rr0 | exact rr1 | exact rr2 | exact rr3 | exact rr4 | exact rr5 | exact rr6 | exact rr7 | exact rr8 | exact rr9 | exact rr10 | exact rr11 | exact rr12 | exact rr13 | exact rr14) .nil) rfl ?_
    rintro _ _ ⟨rfl, rfl⟩
    rw [e5]
    refine o_val (v_move rfl) rfl ?_
    refine o_val (v_extract rfl rfl) rfl ?_
    refine o_val (v_extract rfl rfl) rfl ?_
    refine o_val (v_assign rfl) rfl ?_
    refine o_val (v_assign rfl) rfl ?_
    refine o_nil ?_
    refine thn_n ?_
    refine w_seq ?_
    refine w_region ?_
    refine o_val (v_move rfl) rfl ?_
    refine o_val (v_move rfl) rfl ?_
    refine o_want rfl ?_
    refine o_val (v_move rfl) rfl ?_
    refine o_want rfl ?_
    refine o_val (v_eql rfl rfl) rfl ?_
    refine o_val (v_pickT rfl rfl) rfl ?_
    refine o_val (v_move rfl) rfl ?_
    first | refine o_boolD 35 rfl (fun h35 => ?_) (fun h35 => ?_) | refine o_bool 35 rfl (fun h35 => ?_) (fun h35 => ?_)
    ·
      refine o_want rfl ?_
      refine o_val (v_move rfl) rfl ?_
      refine o_want rfl ?_
      refine o_val (v_eql rfl rfl) rfl ?_
      refine o_val (v_pickT rfl rfl) rfl ?_
      refine o_val (v_move rfl) rfl ?_
      first | refine o_boolD 39 rfl (fun h39 => ?_) (fun h39 => ?_) | refine o_bool 39 rfl (fun h39 => ?_) (fun h39 => ?_)
      ·
        refine o_want rfl ?_
        refine o_val (v_move rfl) rfl ?_
        refine o_want rfl ?_
        refine o_val (v_eql rfl rfl) rfl ?_
        refine o_val (v_pickT rfl rfl) rfl ?_
        refine o_val (v_assign rfl) rfl ?_
        refine o_nil ?_
        refine thn_n ?_
        refine w_ret ?_
        first | (exfalso; omega) | exact ret_ok (G := []) (res1 rfl) ⟨by simp, rfl⟩ (sub .nil (by first | exact dd0 | exact dd1 | exact dd2 | exact dd3 | exact dd4 | exact dd5 | exact dd6 | exact dd7 | exact dd8 | exact dd9 | exact dd10 | exact dd11 | exact dd12 | exact dd13 | exact dd14))
      ·
        refine o_pass rfl rfl rfl ?_
        refine o_pass rfl rfl rfl ?_
        refine o_val (v_pickF rfl rfl) rfl ?_
        refine o_val (v_assign rfl) rfl ?_
        refine o_nil ?_
        refine thn_n ?_
        refine w_ret ?_
        first | (exfalso; omega) | exact ret_ok (G := []) (res1 rfl) ⟨by simp, rfl⟩ (sub .nil (by first | exact dd0 | exact dd1 | exact dd2 | exact dd3 | exact dd4 | exact dd5 | exact dd6 | exact dd7 | exact dd8 | exact dd9 | exact dd10 | exact dd11 | exact dd12 | exact dd13 | exact dd14))
    ·
      refine o_pass rfl rfl rfl ?_
      refine o_pass rfl rfl rfl ?_
      refine o_val (v_pickF rfl rfl) rfl ?_
      refine o_val (v_move rfl) rfl ?_
      refine o_pass rfl rfl rfl ?_
      refine o_pass rfl rfl rfl ?_
      refine o_val (v_pickF rfl rfl) rfl ?_
      refine o_val (v_assign rfl) rfl ?_
      refine o_nil ?_
      refine thn_n ?_
      refine w_ret ?_
      first | (exfalso; omega) | exact ret_ok (G := []) (res1 rfl) ⟨by simp, rfl⟩ (sub .nil (by first | exact dd0 | exact dd1 | exact dd2 | exact dd3 | exact dd4 | exact dd5 | exact dd6 | exact dd7 | exact dd8 | exact dd9 | exact dd10 | exact dd11 | exact dd12 | exact dd13 | exact dd14))

set_option maxRecDepth 100000 in
theorem codes_no (p : Option Addr) (cap : Nat) (ls : List Int) (hE : ¬ HuffP.newE ls = 0) : Ctr Try.prog 3 [.slice p ls.length cap] [RdR I3 p ls.length ls] (Ret fun v G => v = .bool true ∧ G = [RdR I3 p ls.length ls]) := by
  refine spec_of [(0, _)] Try.func3 rfl Try.ntmps3 rfl rfl ?_
  intro w0 F
  refine w_seq ?_
  refine w_region ?_
  refine o_val (v_assign rfl) rfl ?_
  refine o_nil ?_
  refine thn_n ?_
  refine w_seq ?_
  refine w_seq ?_
  refine w_region ?_
  refine o_call (awake) V.b9  rfl .nil rfl ?_
  rintro _ _ ⟨rfl, rfl⟩
  refine o_val (v_to (v := .bool false) (v_not rfl) rfl) rfl ?_
  refine o_nil ?_
  refine thn_n ?_
  refine w_condF rfl ?_
  refine w_skip ?_
  refine thn_n ?_
  refine w_seq ?_
  refine w_seq ?_
  refine w_region ?_
  refine o_val (v_move rfl) rfl ?_
  refine o_val (v_len (ty' := 0) Try.underlying22 rfl) rfl ?_
  refine o_val (v_gtr rfl rfl) rfl ?_
  refine o_nil ?_
  refine thn_n ?_
  first | refine w_condD rfl (fun h18 => ?_) (fun h18 => ?_) | refine w_cond rfl (fun h18 => ?_) (fun h18 => ?_)
  ·
    refine w_seq ?_
    refine w_region ?_
    refine o_val (v_assign rfl) rfl ?_
    refine o_nil ?_
    refine thn_n ?_
    refine w_ret ?_
    refine (thn_r ?_)
    exact ret_ok (G := [_]) (res1 rfl) ⟨rfl, rfl⟩ (sub (.cons (by first | exact rr0 | exact rr1 | exact rr2 | exact rr3 | exact rr4 | exact rr5 | exact rr6 | exact rr7 | exact rr8 | exact rr9 | exact rr10 | exact rr11 | exact rr12 | exact rr13 | exact rr14) .nil) (by first | exact dd0 | exact dd1 | exact dd2 | exact dd3 | exact dd4 | exact dd5 | exact dd6 | exact dd7 | exact dd8 | exact dd9 | exact dd10 | exact dd11 | exact dd12 | exact dd13 | exact dd14))
  ·
    refine w_skip ?_
    refine thn_n ?_
    refine w_seq ?_
    refine w_region ?_
    refine o_val (v_move rfl) rfl ?_
    refine o_call (h_new_no p cap ls (RdR I3 p ls.length ls) (fun _ _ h => h) hE) V.b10  rfl (.cons (by first | exact rr0 | exact rr1 | exact rr2 | exact rr3 | exact rr4 | exact rr5 | exact rr6 | exact rr7 | exact rr8 | exact rr9 | exact rr10 | exact rr11 | exact rr12 | exact rr13 | exact rr14) .nil) rfl ?_
    rintro _ _ ⟨rfl, rfl⟩
    refine o_val (v_move rfl) rfl ?_
    refine o_val (v_extract rfl rfl) rfl ?_
    refine o_val (v_extract rfl rfl) rfl ?_
    refine o_val (v_assign rfl) rfl ?_
    refine o_val (v_assign rfl) rfl ?_
    refine o_nil ?_
    refine thn_n ?_
    refine w_seq ?_
    refine w_region ?_
    refine o_val (v_move rfl) rfl ?_
    refine o_call (r_new_no p cap ls (RdR I3 p ls.length ls) (fun _ _ h => h) hE) V.b11  rfl (.cons (by first | exact rr0 | exact rr1 | exact rr2 | exact rr3 | exact rr4 | exact rr5 | exact rr6 | exact rr7 | exact rr8 | exact rr9 | exact rr10 | exact rr11 | exact rr12 | exact rr13 | exact rr14) .nil) rfl ?_
    rintro _ _ ⟨rfl, rfl⟩
    refine o_val (v_move rfl) rfl ?_
    refine o_val (v_extract rfl rfl) rfl ?_
    refine o_val (v_extract rfl rfl) rfl ?_
    refine o_val (v_assign rfl) rfl ?_
    refine o_val (v_assign rfl) rfl ?_
    refine o_nil ?_
    refine thn_n ?_
    refine w_seq ?_
    refine w_seq ?_
    refine w_region ?_
    refine o_val (v_move rfl) rfl ?_
    refine o_val (v_move rfl) rfl ?_
    refine o_val (v_neq rfl rfl) rfl ?_
    refine o_val (v_move rfl) rfl ?_
    first | refine o_boolD 32 rfl (fun h32 => ?_) (fun h32 => ?_) | refine o_bool 32 rfl (fun h32 => ?_) (fun h32 => ?_)
    ·
      refine o_pass rfl rfl rfl ?_
      refine o_pass rfl rfl rfl ?_
      refine o_pass rfl rfl rfl ?_
      refine o_pass rfl rfl rfl ?_
      refine o_pass rfl rfl rfl ?_
      refine o_val (v_pickT rfl rfl) rfl ?_
      refine o_nil ?_
      refine thn_n ?_
      refine w_condT rfl ?_
      refine w_seq ?_
      refine w_region ?_
      refine o_val (v_assign rfl) rfl ?_
      refine o_nil ?_
      refine thn_n ?_
      refine w_ret ?_
      refine (thn_r ?_)
      exfalso
      first | omega | (simp at h38; done) | exact hE h38 | (simp [hE] at h38; done)
    ·
      refine o_want rfl ?_
      refine o_val (v_move rfl) rfl ?_
      refine o_want rfl ?_
      refine o_val (v_eql rfl rfl) rfl ?_
      refine o_want rfl ?_
      refine o_val (v_move rfl) rfl ?_
      refine o_want rfl ?_
      refine o_val (v_to (v := .bool false) (v_nenil Try.underlying24 rfl rfl) rfl) rfl ?_
      refine o_want rfl ?_
      refine o_val (v_neb Try.underlying4 rfl rfl) rfl ?_
      refine o_val (v_pickF rfl rfl) rfl ?_
      refine o_nil ?_
      refine thn_n ?_
      first | refine w_condD rfl (fun h38 => ?_) (fun h38 => ?_) | refine w_cond rfl (fun h38 => ?_) (fun h38 => ?_)
      ·
        refine w_seq ?_
        refine w_region ?_
        refine o_val (v_assign rfl) rfl ?_
        refine o_nil ?_
        refine thn_n ?_
        refine w_ret ?_
        refine (thn_r ?_)
        exfalso
        first | omega | (simp at h38; done) | exact hE h38 | (simp [hE] at h38; done)
      ·
        refine w_skip ?_
        refine thn_n ?_
        refine w_seq ?_
        refine w_seq ?_
        refine w_region ?_
        refine o_val (v_move rfl) rfl ?_
        refine o_val (v_T (v_neq rfl rfl) hE) rfl ?_
        refine o_nil ?_
        refine thn_n ?_
        refine w_condT rfl ?_
        refine w_seq ?_
        refine w_region ?_
        refine o_val (v_assign rfl) rfl ?_
        refine o_nil ?_
        refine thn_n ?_
        refine w_ret ?_
        refine (thn_r ?_)
        exact ret_ok (G := [_]) (res1 rfl) ⟨rfl, rfl⟩ (sub (.cons (by first | exact rr0 | exact rr1 | exact rr2 | exact rr3 | exact rr4 | exact rr5 | exact rr6 | exact rr7 | exact rr8 | exact rr9 | exact rr10 | exact rr11 | exact rr12 | exact rr13 | exact rr14) .nil) (by first | exact dd0 | exact dd1 | exact dd2 | exact dd3 | exact dd4 | exact dd5 | exact dd6 | exact dd7 | exact dd8 | exact dd9 | exact dd10 | exact dd11 | exact dd12 | exact dd13 | exact dd14))

set_option maxRecDepth 100000 in
theorem codes_yes (p : Option Addr) (cap : Nat) (ls : List Int) (hE : HuffP.newE ls = 0) : Ctr Try.prog 3 [.slice p ls.length cap] [RdR I3 p ls.length ls] (Ret fun v G => v = .bool true ∧ G = [RdR I3 p ls.length ls]) := by
  refine spec_of [(0, _)] Try.func3 rfl Try.ntmps3 rfl rfl ?_
  intro w0 F
  have hV := (HuffP.newE_vl hE).1.1
  refine w_seq ?_
  refine w_region ?_
  refine o_val (v_assign rfl) rfl ?_
  refine o_nil ?_
  refine thn_n ?_
  refine w_seq ?_
  refine w_seq ?_
  refine w_region ?_
  refine o_call (awake) V.b9  rfl .nil rfl ?_
  rintro _ _ ⟨rfl, rfl⟩
  refine o_val (v_to (v := .bool false) (v_not rfl) rfl) rfl ?_
  refine o_nil ?_
  refine thn_n ?_
  refine w_condF rfl ?_
  refine w_skip ?_
  refine thn_n ?_
  refine w_seq ?_
  refine w_seq ?_
  refine w_region ?_
  refine o_val (v_move rfl) rfl ?_
  refine o_val (v_len (ty' := 0) Try.underlying22 rfl) rfl ?_
  refine o_val (v_gtr rfl rfl) rfl ?_
  refine o_nil ?_
  refine thn_n ?_
  first | refine w_condD rfl (fun h18 => ?_) (fun h18 => ?_) | refine w_cond rfl (fun h18 => ?_) (fun h18 => ?_)
  ·
    refine w_seq ?_
    refine w_region ?_
    refine o_val (v_assign rfl) rfl ?_
    refine o_nil ?_
    refine thn_n ?_
    refine w_ret ?_
    refine (thn_r ?_)
    exact ret_ok (G := [_]) (res1 rfl) ⟨rfl, rfl⟩ (sub (.cons (by first | exact rr0 | exact rr1 | exact rr2 | exact rr3 | exact rr4 | exact rr5 | exact rr6 | exact rr7 | exact rr8 | exact rr9 | exact rr10 | exact rr11 | exact rr12 | exact rr13 | exact rr14) .nil) (by first | exact dd0 | exact dd1 | exact dd2 | exact dd3 | exact dd4 | exact dd5 | exact dd6 | exact dd7 | exact dd8 | exact dd9 | exact dd10 | exact dd11 | exact dd12 | exact dd13 | exact dd14))
  ·
    refine w_skip ?_
    refine thn_n ?_
    refine w_seq ?_
    refine w_region ?_
    refine o_val (v_move rfl) rfl ?_
    refine o_call (h_new_yes p cap ls (RdR I3 p ls.length ls) (fun _ _ h => h) hE) V.b10  rfl (.cons (by first | exact rr0 | exact rr1 | exact rr2 | exact rr3 | exact rr4 | exact rr5 | exact rr6 | exact rr7 | exact rr8 | exact rr9 | exact rr10 | exact rr11 | exact rr12 | exact rr13 | exact rr14) .nil) rfl ?_
    rintro _ _ ⟨b3, rfl, rfl⟩
    refine o_val (v_move rfl) rfl ?_
    refine o_val (v_extract rfl rfl) rfl ?_
    refine o_val (v_extract rfl rfl) rfl ?_
    refine o_val (v_assign rfl) rfl ?_
    refine o_val (v_assign rfl) rfl ?_
    refine o_nil ?_
    refine thn_n ?_
    refine w_seq ?_
    refine w_region ?_
    refine o_val (v_move rfl) rfl ?_
    refine o_call (r_new_yes p cap ls (RdR I3 p ls.length ls) (fun _ _ h => h) hE) V.b11  rfl (.cons (by first | exact rr0 | exact rr1 | exact rr2 | exact rr3 | exact rr4 | exact rr5 | exact rr6 | exact rr7 | exact rr8 | exact rr9 | exact rr10 | exact rr11 | exact rr12 | exact rr13 | exact rr14) .nil) rfl ?_
    rintro _ _ ⟨b5, rfl, rfl⟩
    refine o_val (v_move rfl) rfl ?_
    refine o_val (v_extract rfl rfl) rfl ?_
    refine o_val (v_extract rfl rfl) rfl ?_
    refine o_val (v_assign rfl) rfl ?_
    refine o_val (v_assign rfl) rfl ?_
    refine o_nil ?_
    refine thn_n ?_
    refine w_seq ?_
    refine w_seq ?_
    refine w_region ?_
    refine o_val (v_move rfl) rfl ?_
    refine o_val (v_move rfl) rfl ?_
    refine o_val (v_neq rfl rfl) rfl ?_
    refine o_val (v_move rfl) rfl ?_
    first | refine o_boolD 32 rfl (fun h32 => ?_) (fun h32 => ?_) | refine o_bool 32 rfl (fun h32 => ?_) (fun h32 => ?_)
    ·
      refine o_pass rfl rfl rfl ?_
      refine o_pass rfl rfl rfl ?_
      refine o_pass rfl rfl rfl ?_
      refine o_pass rfl rfl rfl ?_
      refine o_pass rfl rfl rfl ?_
      refine o_val (v_pickT rfl rfl) rfl ?_
      refine o_nil ?_
      refine thn_n ?_
      refine w_condT rfl ?_
      refine w_seq ?_
      refine w_region ?_
      refine o_val (v_assign rfl) rfl ?_
      refine o_nil ?_
      refine thn_n ?_
      refine w_ret ?_
      refine (thn_r ?_)
      exfalso
      first | omega | (simp at h38; done) | exact hE h38 | (simp [hE] at h38; done)
    ·
      refine o_want rfl ?_
      refine o_val (v_move rfl) rfl ?_
      refine o_want rfl ?_
      refine o_val (v_eql rfl rfl) rfl ?_
      refine o_want rfl ?_
      refine o_val (v_move rfl) rfl ?_
      refine o_want rfl ?_
      refine o_val (v_to (v := .bool true) (v_nenil Try.underlying24 rfl rfl) rfl) rfl ?_
      refine o_want rfl ?_
      refine o_val (v_neb Try.underlying4 rfl rfl) rfl ?_
      refine o_val (v_pickF rfl rfl) rfl ?_
      refine o_nil ?_
      refine thn_n ?_
      first | refine w_condD rfl (fun h38 => ?_) (fun h38 => ?_) | refine w_cond rfl (fun h38 => ?_) (fun h38 => ?_)
      ·
        refine w_seq ?_
        refine w_region ?_
        refine o_val (v_assign rfl) rfl ?_
        refine o_nil ?_
        refine thn_n ?_
        refine w_ret ?_
        refine (thn_r ?_)
        exfalso
        first | omega | (simp at h38; done) | exact hE h38 | (simp [hE] at h38; done)
      ·
        refine w_skip ?_
        refine thn_n ?_
        refine w_seq ?_
        refine w_seq ?_
        refine w_region ?_
        refine o_val (v_move rfl) rfl ?_
        refine o_val (v_neq rfl rfl) rfl ?_
        refine o_nil ?_
        refine thn_n ?_
        first | refine w_condD rfl (fun h40 => ?_) (fun h40 => ?_) | refine w_cond rfl (fun h40 => ?_) (fun h40 => ?_)
        ·
          refine w_seq ?_
          refine w_region ?_
          refine o_val (v_assign rfl) rfl ?_
          refine o_nil ?_
          refine thn_n ?_
          refine w_ret ?_
          refine (thn_r ?_)
          exact ret_ok (G := [_]) (res1 rfl) ⟨rfl, rfl⟩ (sub (.cons (by first | exact rr0 | exact rr1 | exact rr2 | exact rr3 | exact rr4 | exact rr5 | exact rr6 | exact rr7 | exact rr8 | exact rr9 | exact rr10 | exact rr11 | exact rr12 | exact rr13 | exact rr14) .nil) (by first | exact dd0 | exact dd1 | exact dd2 | exact dd3 | exact dd4 | exact dd5 | exact dd6 | exact dd7 | exact dd8 | exact dd9 | exact dd10 | exact dd11 | exact dd12 | exact dd13 | exact dd14))
        ·
          refine w_skip ?_
          refine thn_n ?_
          refine w_seq ?_
          refine w_seq ?_
          refine w_region ?_
          refine o_val (v_assign rfl) rfl ?_
          refine o_nil ?_
          refine thn_n ?_
          refine w_block ?_
          refine w_loop1 (fun (k : Nat) => [(0, .slice p ls.length cap), (3, .pointer (some ⟨b3, 0, none⟩)), (5, .pointer (some ⟨b5, 0, none⟩)), (7, .int .i64 ((k : Int) - 1))]) (fun (k : Nat) => HC b3 ls :: RC b5 ls :: RdR I3 p ls.length ls :: F) (fun (k : Nat) => k ≤ ls.length + 2) (fun (k : Nat) => ls.length + 2 - k) (i1 (0) ?_ (.cons rfl (.cons rfl (.cons rfl (.cons rfl (.nil _))))) (sub (.cons (by first | exact rr0 | exact rr1 | exact rr2 | exact rr3 | exact rr4 | exact rr5 | exact rr6 | exact rr7 | exact rr8 | exact rr9 | exact rr10 | exact rr11 | exact rr12 | exact rr13 | exact rr14) (.cons (by first | exact rr0 | exact rr1 | exact rr2 | exact rr3 | exact rr4 | exact rr5 | exact rr6 | exact rr7 | exact rr8 | exact rr9 | exact rr10 | exact rr11 | exact rr12 | exact rr13 | exact rr14) (.cons (by first | exact rr0 | exact rr1 | exact rr2 | exact rr3 | exact rr4 | exact rr5 | exact rr6 | exact rr7 | exact rr8 | exact rr9 | exact rr10 | exact rr11 | exact rr12 | exact rr13 | exact rr14) .nil))) (by first | exact dd0 | exact dd1 | exact dd2 | exact dd3 | exact dd4 | exact dd5 | exact dd6 | exact dd7 | exact dd8 | exact dd9 | exact dd10 | exact dd11 | exact dd12 | exact dd13 | exact dd14))) ?_
          ·
            exact Nat.zero_le _
          intro k
          rintro hk
          refine w_seq ?_
          refine w_seq ?_
          refine w_region ?_
          refine o_val (v_move rfl) rfl ?_
          refine o_val (v_move rfl) rfl ?_
          refine o_val (v_len (ty' := 0) Try.underlying22 rfl) rfl ?_
          refine o_val (v_leq rfl rfl) rfl ?_
          refine o_nil ?_
          refine thn_n ?_
          first | refine w_condD rfl (fun h44 => ?_) (fun h44 => ?_) | refine w_cond rfl (fun h44 => ?_) (fun h44 => ?_)
          ·
            refine w_skip ?_
            refine thn_n ?_
            refine w_seq ?_
            refine w_block ?_
            refine w_seq ?_
            refine w_region ?_
            refine o_val (v_move rfl) rfl ?_
            refine o_val (v_move rfl) rfl ?_
            refine o_call (h_word b3 ls ((k : Int) - 1)) V.b12  rfl (.cons (by first | exact rr0 | exact rr1 | exact rr2 | exact rr3 | exact rr4 | exact rr5 | exact rr6 | exact rr7 | exact rr8 | exact rr9 | exact rr10 | exact rr11 | exact rr12 | exact rr13 | exact rr14) .nil) rfl ?_
            rintro _ _ ⟨rfl, rfl⟩
            refine o_val (v_move rfl) rfl ?_
            refine o_val (v_extract rfl rfl) rfl ?_
            refine o_val (v_extract rfl rfl) rfl ?_
            refine o_val (v_extract rfl rfl) rfl ?_
            refine o_val (v_assign rfl) rfl ?_
            refine o_val (v_assign rfl) rfl ?_
            refine o_val (v_assign rfl) rfl ?_
            refine o_nil ?_
            refine thn_n ?_
            refine w_seq ?_
            refine w_region ?_
            refine o_val (v_move rfl) rfl ?_
            refine o_val (v_move rfl) rfl ?_
            refine o_call (r_word b5 ls ((k : Int) - 1) hE) V.b13  rfl (.cons (by first | exact rr0 | exact rr1 | exact rr2 | exact rr3 | exact rr4 | exact rr5 | exact rr6 | exact rr7 | exact rr8 | exact rr9 | exact rr10 | exact rr11 | exact rr12 | exact rr13 | exact rr14) .nil) rfl ?_
            rintro _ _ ⟨rfl, rfl⟩
            refine o_val (v_move rfl) rfl ?_
            refine o_val (v_extract rfl rfl) rfl ?_
            refine o_val (v_extract rfl rfl) rfl ?_
            refine o_val (v_extract rfl rfl) rfl ?_
            refine o_val (v_assign rfl) rfl ?_
            refine o_val (v_assign rfl) rfl ?_
            refine o_val (v_assign rfl) rfl ?_
            refine o_nil ?_
            refine thn_n ?_
            refine w_seq ?_
            refine w_region ?_
            refine o_val (v_move rfl) rfl ?_
            refine o_val (v_move rfl) rfl ?_
            refine o_val (v_neq rfl rfl) rfl ?_
            refine o_val (v_move rfl) rfl ?_
            first | refine o_boolD 64 rfl (fun h64 => ?_) (fun h64 => ?_) | refine o_bool 64 rfl (fun h64 => ?_) (fun h64 => ?_)
            ·
              refine o_pass rfl rfl rfl ?_
              refine o_pass rfl rfl rfl ?_
              refine o_pass rfl rfl rfl ?_
              refine o_val (v_pickT rfl rfl) rfl ?_
              refine o_val (v_move rfl) rfl ?_
              refine o_pass rfl rfl rfl ?_
              refine o_pass rfl rfl rfl ?_
              refine o_pass rfl rfl rfl ?_
              refine o_val (v_pickT rfl rfl) rfl ?_
              refine o_nil ?_
              refine thn_n ?_
              refine w_condT rfl ?_
              refine w_seq ?_
              refine w_region ?_
              refine o_val (v_assign rfl) rfl ?_
              refine o_nil ?_
              refine thn_n ?_
              refine w_ret ?_
              refine (blk_r (thn_r (thn_r (blk_r (thn_r ?_)))))
              exfalso
              first | omega | (simp at h73)
            ·
              refine o_want rfl ?_
              refine o_val (v_move rfl) rfl ?_
              refine o_want rfl ?_
              refine o_val (v_move rfl) rfl ?_
              refine o_want rfl ?_
              refine o_val (v_neq rfl rfl) rfl ?_
              refine o_val (v_pickF rfl rfl) rfl ?_
              refine o_val (v_move rfl) rfl ?_
              first | refine o_boolD 69 rfl (fun h69 => ?_) (fun h69 => ?_) | refine o_bool 69 rfl (fun h69 => ?_) (fun h69 => ?_)
              ·
                refine o_pass rfl rfl rfl ?_
                refine o_pass rfl rfl rfl ?_
                refine o_pass rfl rfl rfl ?_
                refine o_val (v_pickT rfl rfl) rfl ?_
                refine o_nil ?_
                refine thn_n ?_
                refine w_condT rfl ?_
                refine w_seq ?_
                refine w_region ?_
                refine o_val (v_assign rfl) rfl ?_
                refine o_nil ?_
                refine thn_n ?_
                refine w_ret ?_
                refine (blk_r (thn_r (thn_r (blk_r (thn_r ?_)))))
                exfalso
                first | omega | (simp at h73)
              ·
                refine o_want rfl ?_
                refine o_val (v_move rfl) rfl ?_
                refine o_want rfl ?_
                refine o_val (v_move rfl) rfl ?_
                refine o_want rfl ?_
                refine o_val (v_neb Try.underlying4 rfl rfl) rfl ?_
                refine o_val (v_pickF rfl rfl) rfl ?_
                refine o_nil ?_
                refine thn_n ?_
                first | refine w_condD rfl (fun h73 => ?_) (fun h73 => ?_) | refine w_cond rfl (fun h73 => ?_) (fun h73 => ?_)
                ·
                  refine w_seq ?_
                  refine w_region ?_
                  refine o_val (v_assign rfl) rfl ?_
                  refine o_nil ?_
                  refine thn_n ?_
                  refine w_ret ?_
                  refine (blk_r (thn_r (thn_r (blk_r (thn_r ?_)))))
                  exfalso
                  first | omega | (simp at h73)
                ·
                  refine w_skip ?_
                  refine blk_n ?_
                  refine thn_n ?_
                  refine w_region ?_
                  refine o_val (v_move rfl) rfl ?_
                  refine o_val (v_add rfl rfl (wrapI (by omega) (by omega))) rfl ?_
                  refine o_val (v_assign rfl) rfl ?_
                  refine o_nil ?_
                  rw [show (k : Int) - 1 + 1 = ((k + 1 : Nat) : Int) - 1 from by omega]
                  refine j1 (k + 1) ?_ (.cons rfl (.cons rfl (.cons rfl (.cons rfl (.nil _))))) (sub (.cons (by first | exact rr0 | exact rr1 | exact rr2 | exact rr3 | exact rr4 | exact rr5 | exact rr6 | exact rr7 | exact rr8 | exact rr9 | exact rr10 | exact rr11 | exact rr12 | exact rr13 | exact rr14) (.cons (by first | exact rr0 | exact rr1 | exact rr2 | exact rr3 | exact rr4 | exact rr5 | exact rr6 | exact rr7 | exact rr8 | exact rr9 | exact rr10 | exact rr11 | exact rr12 | exact rr13 | exact rr14) (.cons (by first | exact rr0 | exact rr1 | exact rr2 | exact rr3 | exact rr4 | exact rr5 | exact rr6 | exact rr7 | exact rr8 | exact rr9 | exact rr10 | exact rr11 | exact rr12 | exact rr13 | exact rr14) .nil))) (by first | exact dd0 | exact dd1 | exact dd2 | exact dd3 | exact dd4 | exact dd5 | exact dd6 | exact dd7 | exact dd8 | exact dd9 | exact dd10 | exact dd11 | exact dd12 | exact dd13 | exact dd14))
                  exact ⟨by omega, by omega⟩
          ·
            refine w_exit ?_
            refine thn_e ?_
            refine thn_e ?_
            refine blk_x ?_
            refine thn_n ?_
            refine w_seq ?_
            refine w_region ?_
            refine o_val (v_assign rfl) rfl ?_
            refine o_nil ?_
            refine thn_n ?_
            refine w_ret ?_
            exact ret_ok (G := [_]) (res1 rfl) ⟨rfl, rfl⟩ (sub (.cons (by first | exact rr0 | exact rr1 | exact rr2 | exact rr3 | exact rr4 | exact rr5 | exact rr6 | exact rr7 | exact rr8 | exact rr9 | exact rr10 | exact rr11 | exact rr12 | exact rr13 | exact rr14) .nil) (by first | exact dd0 | exact dd1 | exact dd2 | exact dd3 | exact dd4 | exact dd5 | exact dd6 | exact dd7 | exact dd8 | exact dd9 | exact dd10 | exact dd11 | exact dd12 | exact dd13 | exact dd14))


theorem codes (p : Option Addr) (cap : Nat) (ls : List Int) : Ctr Try.prog 3 [.slice p ls.length cap] [RdR I3 p ls.length ls] (Ret fun v G => v = .bool true ∧ G = [RdR I3 p ls.length ls]) := by
  by_cases hE : HuffP.newE ls = 0
  · exact codes_yes p cap ls hE
  · exact codes_no p cap ls hE

end Go.Proofs.Ytmclopghpnndnaa

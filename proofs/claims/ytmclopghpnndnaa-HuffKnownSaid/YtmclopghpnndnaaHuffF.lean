/-
  Steps of the proof: walks of functions that the statement reaches; printed by a program of ours.
-/
import Derived.Test.YtmclopghpnndnaaM40
namespace Go.Proofs.Ytmclopghpnndnaa
open Go.Sl 
set_option linter.unusedVariables false
set_option linter.unusedSimpArgs false

theorem aw1 : HuffP.newE [2, 1, 3, 3] = 0 := by decide +kernel
theorem aw2 : HuffP.lkW [2, 1, 3, 3] 3 = 7 := by decide +kernel
theorem aw3 : HuffP.lkN [2, 1, 3, 3] 3 = 3 := by decide +kernel
theorem aw4 : HuffP.lkB [2, 1, 3, 3] 3 = true := by decide +kernel
theorem aw5 : HuffP.newE [1, 1, 1] = 4 := by decide +kernel



theorem h_new_yes (p : Option Addr) (cap : Nat) (ls : List Int) (R : HProp) (hR : ∀ w0 h, R w0 h → RdR I3 p ls.length ls w0 h) (hE : HuffP.newE ls = 0) : Ctr Try.prog 10 [.slice p ls.length cap] [R] (Ret fun v G => ∃ b, v = .tuple #[.pointer (some ⟨b, 0, none⟩), .int .i64 0] ∧ G = [HC b ls, R]) := by
  refine (h_new p cap ls R hR).mono ?_
  rintro e G ⟨v, rfl, h⟩
  rcases h with ⟨_, b, h1, h2⟩ | ⟨h, _⟩
  · exact ⟨v, rfl, b, h1, h2⟩
  · exact absurd hE h
theorem h_new_no (p : Option Addr) (cap : Nat) (ls : List Int) (R : HProp) (hR : ∀ w0 h, R w0 h → RdR I3 p ls.length ls w0 h) (hE : ¬ HuffP.newE ls = 0) : Ctr Try.prog 10 [.slice p ls.length cap] [R] (Ret fun v G => v = .tuple #[.pointer none, .int .i64 (HuffP.newE ls)] ∧ G = [R]) := by
  refine (h_new p cap ls R hR).mono ?_
  rintro e G ⟨v, rfl, h⟩
  rcases h with ⟨h, _⟩ | ⟨_, h1, h2⟩
  · exact absurd h hE
  · exact ⟨v, rfl, h1, h2⟩



attribute [local irreducible] HuffP.newE HuffP.lkW HuffP.lkN HuffP.lkB

set_option maxRecDepth 100000 in
theorem awake  : Ctr Try.prog 9 [] [] (Ret fun v G => v = .bool true ∧ G = []) := by
  refine spec_of [] Try.func9 rfl Try.ntmps9 rfl rfl ?_
  intro w0 F
  have e1 := aw1
  have e2 := aw2
  have e3 := aw3
  have e4 := aw4
  have e5 := aw5
  refine w_seq ?_
  refine w_region ?_
  refine o_val (v_assign rfl) rfl ?_
  refine o_nil ?_
  refine thn_n ?_
  refine w_seq ?_
  refine w_region ?_
  refine r_build (I3) [2, 1, 3, 3] V.sl22 V.z3 rfl rfl rfl rfl rfl rfl ?_
  intro b9
  refine o_call (h_new_yes (some ⟨b9, 0, none⟩) 4 [2, 1, 3, 3] (Row I3 (some ⟨b9, 0, none⟩) 4 4 [2, 1, 3, 3]) (fun _ _ h => h.rd) e1) V.b10  rfl (.cons (by repeat first | exact .head | apply Rem.tail) .nil) rfl ?_
  rintro _ _ ⟨b1, rfl, rfl⟩
  refine o_val (v_move rfl) rfl ?_
  refine o_val (v_extract rfl rfl) rfl ?_
  refine o_val (v_extract rfl rfl) rfl ?_
  refine o_val (v_assign rfl) rfl ?_
  refine o_val (v_assign rfl) rfl ?_
  refine o_nil ?_
  refine thn_n ?_
  refine w_seq ?_
  refine w_seq ?_
  refine w_region ?_
  refine o_val (v_move rfl) rfl ?_
  refine o_val (v_neq rfl rfl) rfl ?_
  refine o_val (v_move rfl) rfl ?_
  first | refine o_boolD 15 rfl (fun h15 => ?_) (fun h15 => ?_) | refine o_bool 15 rfl (fun h15 => ?_) (fun h15 => ?_)
  ·
    refine o_pass rfl rfl rfl ?_
    refine o_pass rfl rfl rfl ?_
    refine o_val (v_pickT rfl rfl) rfl ?_
    refine o_nil ?_
    refine thn_n ?_
    refine w_condT rfl ?_
    refine w_seq ?_
    refine w_region ?_
    refine o_val (v_assign rfl) rfl ?_
    refine o_nil ?_
    refine thn_n ?_
    refine w_ret ?_
    refine (thn_r ?_)
    exfalso
    omega
  ·
    refine o_want rfl ?_
    refine o_val (v_move rfl) rfl ?_
    refine o_want rfl ?_
    refine o_val (v_to (v := .bool false) (v_eqnil Try.underlying24 rfl rfl) rfl) rfl ?_
    refine o_val (v_pickF rfl rfl) rfl ?_
    refine o_nil ?_
    refine thn_n ?_
    refine w_condF rfl ?_
    refine w_skip ?_
    refine thn_n ?_
    refine w_seq ?_
    refine w_region ?_
    refine o_val (v_move rfl) rfl ?_
    refine o_call (h_word b1 [2, 1, 3, 3] 3) V.b12  rfl (.cons (by repeat first | exact .head | apply Rem.tail) .nil) rfl ?_
    rintro _ _ ⟨rfl, rfl⟩
    rw [e2, e3, e4]
    refine o_val (v_move rfl) rfl ?_
    refine o_val (v_extract rfl rfl) rfl ?_
    refine o_val (v_extract rfl rfl) rfl ?_
    refine o_val (v_extract rfl rfl) rfl ?_
    refine o_val (v_assign rfl) rfl ?_
    refine o_val (v_assign rfl) rfl ?_
    refine o_val (v_assign rfl) rfl ?_
    refine o_nil ?_
    refine thn_n ?_
    refine w_seq ?_
    refine w_region ?_
    refine r_build (I3) [1, 1, 1] V.sl22 V.z3 rfl rfl rfl rfl rfl rfl ?_
    intro b26
    refine o_call (h_new_no (some ⟨b26, 0, none⟩) 3 [1, 1, 1] (Row I3 (some ⟨b26, 0, none⟩) 3 3 [1, 1, 1]) (fun _ _ h => h.rd) (by rw [e5]; decide)) V.b10  rfl (.cons (by repeat first | exact .head | apply Rem.tail) .nil) rfl ?_
    rintro _ _ ⟨rfl, rfl⟩
    rw [e5]
    refine o_val (v_move rfl) rfl ?_
    refine o_val (v_extract rfl rfl) rfl ?_
    refine o_val (v_extract rfl rfl) rfl ?_
    refine o_val (v_assign rfl) rfl ?_
    refine o_val (v_assign rfl) rfl ?_
    refine o_nil ?_
    refine thn_n ?_
    refine w_seq ?_
    refine w_region ?_
    refine o_val (v_move rfl) rfl ?_
    refine o_val (v_move rfl) rfl ?_
    refine o_want rfl ?_
    refine o_val (v_move rfl) rfl ?_
    refine o_want rfl ?_
    refine o_val (v_eql rfl rfl) rfl ?_
    refine o_val (v_pickT rfl rfl) rfl ?_
    refine o_val (v_move rfl) rfl ?_
    first | refine o_boolD 35 rfl (fun h35 => ?_) (fun h35 => ?_) | refine o_bool 35 rfl (fun h35 => ?_) (fun h35 => ?_)
    ·
      refine o_want rfl ?_
      refine o_val (v_move rfl) rfl ?_
      refine o_want rfl ?_
      refine o_val (v_eql rfl rfl) rfl ?_
      refine o_val (v_pickT rfl rfl) rfl ?_
      refine o_val (v_move rfl) rfl ?_
      first | refine o_boolD 39 rfl (fun h39 => ?_) (fun h39 => ?_) | refine o_bool 39 rfl (fun h39 => ?_) (fun h39 => ?_)
      ·
        refine o_want rfl ?_
        refine o_val (v_move rfl) rfl ?_
        refine o_want rfl ?_
        refine o_val (v_eql rfl rfl) rfl ?_
        refine o_val (v_pickT rfl rfl) rfl ?_
        refine o_val (v_assign rfl) rfl ?_
        refine o_nil ?_
        refine thn_n ?_
        refine w_ret ?_
        first | (exfalso; omega) | exact ret_ok (G := []) (res1 rfl) ⟨by simp, rfl⟩ (sub .nil (by repeat first | exact .refl | apply Drop.skip))
      ·
        refine o_pass rfl rfl rfl ?_
        refine o_pass rfl rfl rfl ?_
        refine o_val (v_pickF rfl rfl) rfl ?_
        refine o_val (v_assign rfl) rfl ?_
        refine o_nil ?_
        refine thn_n ?_
        refine w_ret ?_
        first | (exfalso; omega) | exact ret_ok (G := []) (res1 rfl) ⟨by simp, rfl⟩ (sub .nil (by repeat first | exact .refl | apply Drop.skip))
    ·
      refine o_pass rfl rfl rfl ?_
      refine o_pass rfl rfl rfl ?_
      refine o_val (v_pickF rfl rfl) rfl ?_
      refine o_val (v_move rfl) rfl ?_
      refine o_pass rfl rfl rfl ?_
      refine o_pass rfl rfl rfl ?_
      refine o_val (v_pickF rfl rfl) rfl ?_
      refine o_val (v_assign rfl) rfl ?_
      refine o_nil ?_
      refine thn_n ?_
      refine w_ret ?_
      first | (exfalso; omega) | exact ret_ok (G := []) (res1 rfl) ⟨by simp, rfl⟩ (sub .nil (by repeat first | exact .refl | apply Drop.skip))

end Go.Proofs.Ytmclopghpnndnaa

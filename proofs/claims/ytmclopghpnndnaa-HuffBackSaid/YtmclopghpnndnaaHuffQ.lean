/-
  Steps of the proof: walks of functions that the statement reaches; printed by a program of ours.
-/
import Derived.Test.YtmclopghpnndnaaHuffO
namespace Go.Proofs.Ytmclopghpnndnaa
open Go.Sl 
set_option linter.unusedVariables false
set_option linter.unusedSimpArgs false

attribute [local irreducible] HuffP.newE HuffP.tk HuffP.ord HuffP.cntL HuffP.words HuffP.mostL HuffP.lkW HuffP.lkN HuffP.lkB HuffP.wb HuffP.ins HuffP.bits

set_option maxRecDepth 100000 in
theorem back_no (p : Option Addr) (cap : Nat) (ls : List Int) (q : Option Addr) (cap2 : Nat) (syms : List Int) (hS : ∀ x ∈ syms, 0 ≤ x ∧ x < 65536) (hE : ¬ HuffP.newE ls = 0) : Ctr Try.prog 6 [.slice p ls.length cap, .slice q syms.length cap2] [RdR I3 p ls.length ls, RdR U16 q syms.length syms] (Ret fun v G => v = .bool true ∧ G = [RdR I3 p ls.length ls, RdR U16 q syms.length syms]) := by
  refine spec_of [(0, _), (1, _)] Try.func6 rfl Try.ntmps6 rfl rfl ?_
  intro w0 F
  refine w_seq ?_
  refine w_region ?_
  refine o_val (v_assign rfl) rfl ?_
  refine o_nil ?_
  refine thn_n ?_
  refine w_seq ?_
  refine w_seq ?_
  refine w_region ?_
  refine o_call (awake) V.b9  rfl .nil rfl ?_
  rintro _ _ ⟨rfl, rfl⟩
  refine o_val (v_to (v := .bool false) (v_not rfl) rfl) rfl ?_
  refine o_nil ?_
  refine thn_n ?_
  refine w_condF rfl ?_
  refine w_skip ?_
  refine thn_n ?_
  refine w_seq ?_
  refine w_seq ?_
  refine w_region ?_
  refine o_val (v_move rfl) rfl ?_
  refine o_val (v_len (ty' := 0) Try.underlying22 rfl) rfl ?_
  refine o_val (v_gtr rfl rfl) rfl ?_
  refine o_val (v_move rfl) rfl ?_
  first | refine o_boolD 20 rfl (fun h20 => ?_) (fun h20 => ?_) | refine o_bool 20 rfl (fun h20 => ?_) (fun h20 => ?_)
  ·
    refine o_pass rfl rfl rfl ?_
    refine o_pass rfl rfl rfl ?_
    refine o_pass rfl rfl rfl ?_
    refine o_val (v_pickT rfl rfl) rfl ?_
    refine o_nil ?_
    refine thn_n ?_
    refine w_condT rfl ?_
    refine w_seq ?_
    refine w_region ?_
    refine o_val (v_assign rfl) rfl ?_
    refine o_nil ?_
    refine thn_n ?_
    refine w_ret ?_
    refine (thn_r ?_)
    exact ret_ok (G := [_, _]) (res1 rfl) ⟨rfl, rfl⟩ (sub (.cons (by first | exact rr0 | exact rr1 | exact rr2 | exact rr3 | exact rr4 | exact rr5 | exact rr6 | exact rr7 | exact rr8 | exact rr9 | exact rr10 | exact rr11 | exact rr12 | exact rr13 | exact rr14) (.cons (by first | exact rr0 | exact rr1 | exact rr2 | exact rr3 | exact rr4 | exact rr5 | exact rr6 | exact rr7 | exact rr8 | exact rr9 | exact rr10 | exact rr11 | exact rr12 | exact rr13 | exact rr14) .nil)) (by first | exact dd0 | exact dd1 | exact dd2 | exact dd3 | exact dd4 | exact dd5 | exact dd6 | exact dd7 | exact dd8 | exact dd9 | exact dd10 | exact dd11 | exact dd12 | exact dd13 | exact dd14))
  ·
    refine o_want rfl ?_
    refine o_val (v_move rfl) rfl ?_
    refine o_want rfl ?_
    refine o_val (v_len (ty' := 0) Try.underlying47 rfl) rfl ?_
    refine o_want rfl ?_
    refine o_val (v_gtr rfl rfl) rfl ?_
    refine o_val (v_pickF rfl rfl) rfl ?_
    refine o_nil ?_
    refine thn_n ?_
    first | refine w_condD rfl (fun h24 => ?_) (fun h24 => ?_) | refine w_cond rfl (fun h24 => ?_) (fun h24 => ?_)
    ·
      refine w_seq ?_
      refine w_region ?_
      refine o_val (v_assign rfl) rfl ?_
      refine o_nil ?_
      refine thn_n ?_
      refine w_ret ?_
      refine (thn_r ?_)
      exact ret_ok (G := [_, _]) (res1 rfl) ⟨rfl, rfl⟩ (sub (.cons (by first | exact rr0 | exact rr1 | exact rr2 | exact rr3 | exact rr4 | exact rr5 | exact rr6 | exact rr7 | exact rr8 | exact rr9 | exact rr10 | exact rr11 | exact rr12 | exact rr13 | exact rr14) (.cons (by first | exact rr0 | exact rr1 | exact rr2 | exact rr3 | exact rr4 | exact rr5 | exact rr6 | exact rr7 | exact rr8 | exact rr9 | exact rr10 | exact rr11 | exact rr12 | exact rr13 | exact rr14) .nil)) (by first | exact dd0 | exact dd1 | exact dd2 | exact dd3 | exact dd4 | exact dd5 | exact dd6 | exact dd7 | exact dd8 | exact dd9 | exact dd10 | exact dd11 | exact dd12 | exact dd13 | exact dd14))
    ·
      refine w_skip ?_
      refine thn_n ?_
      refine w_seq ?_
      refine w_region ?_
      refine o_val (v_move rfl) rfl ?_
      refine o_call (h_new_no p cap ls (RdR I3 p ls.length ls) (fun _ _ h => h) hE) V.b10  rfl (.cons (by first | exact rr0 | exact rr1 | exact rr2 | exact rr3 | exact rr4 | exact rr5 | exact rr6 | exact rr7 | exact rr8 | exact rr9 | exact rr10 | exact rr11 | exact rr12 | exact rr13 | exact rr14) .nil) rfl ?_
      rintro _ _ ⟨rfl, rfl⟩
      refine o_val (v_move rfl) rfl ?_
      refine o_val (v_extract rfl rfl) rfl ?_
      refine o_val (v_extract rfl rfl) rfl ?_
      refine o_alloc V.z24 rfl ?_
      intro b5
      refine o_eff (v_store V.s24 rfl rfl rfl (by first | exact pp0 | exact pp1 | exact pp2 | exact pp3 | exact pp4 | exact pp5 | exact pp6 | exact pp7 | exact pp8 | exact pp9 | exact pp10 | exact pp11 | exact pp12 | exact pp13 | exact pp14) (by exact Nat.le_of_ble_eq_true rfl) rfl) ?_
      refine o_val (v_assign rfl) rfl ?_
      refine o_nil ?_
      refine thn_n ?_
      refine w_seq ?_
      refine w_seq ?_
      refine w_region ?_
      refine o_val (v_move rfl) rfl ?_
      refine o_val (v_T (v_neq rfl rfl) hE) rfl ?_
      refine o_nil ?_
      refine thn_n ?_
      refine w_condT rfl ?_
      refine w_seq ?_
      refine w_region ?_
      refine o_val (v_assign rfl) rfl ?_
      refine o_nil ?_
      refine thn_n ?_
      refine w_ret ?_
      refine (thn_r ?_)
      exact ret_ok (G := [_, _]) (res1 rfl) ⟨rfl, rfl⟩ (sub (.cons (by first | exact rr0 | exact rr1 | exact rr2 | exact rr3 | exact rr4 | exact rr5 | exact rr6 | exact rr7 | exact rr8 | exact rr9 | exact rr10 | exact rr11 | exact rr12 | exact rr13 | exact rr14) (.cons (by first | exact rr0 | exact rr1 | exact rr2 | exact rr3 | exact rr4 | exact rr5 | exact rr6 | exact rr7 | exact rr8 | exact rr9 | exact rr10 | exact rr11 | exact rr12 | exact rr13 | exact rr14) .nil)) (by first | exact dd0 | exact dd1 | exact dd2 | exact dd3 | exact dd4 | exact dd5 | exact dd6 | exact dd7 | exact dd8 | exact dd9 | exact dd10 | exact dd11 | exact dd12 | exact dd13 | exact dd14))

set_option maxHeartbeats 3000000 in
set_option maxRecDepth 100000 in
theorem back_yes (p : Option Addr) (cap : Nat) (ls : List Int) (q : Option Addr) (cap2 : Nat) (syms : List Int) (hS : ∀ x ∈ syms, 0 ≤ x ∧ x < 65536) (hE : HuffP.newE ls = 0) : Ctr Try.prog 6 [.slice p ls.length cap, .slice q syms.length cap2] [RdR I3 p ls.length ls, RdR U16 q syms.length syms] (Ret fun v G => v = .bool true ∧ G = [RdR I3 p ls.length ls, RdR U16 q syms.length syms]) := by
  refine spec_of [(0, _), (1, _)] Try.func6 rfl Try.ntmps6 rfl rfl ?_
  intro w0 F
  obtain ⟨hV, hW⟩ := HuffP.newE_vl hE
  have hVl := hV.1
  refine w_seq ?_
  refine w_region ?_
  refine o_val (v_assign rfl) rfl ?_
  refine o_nil ?_
  refine thn_n ?_
  refine w_seq ?_
  refine w_seq ?_
  refine w_region ?_
  refine o_call (awake) V.b9  rfl .nil rfl ?_
  rintro _ _ ⟨rfl, rfl⟩
  refine o_val (v_to (v := .bool false) (v_not rfl) rfl) rfl ?_
  refine o_nil ?_
  refine thn_n ?_
  refine w_condF rfl ?_
  refine w_skip ?_
  refine thn_n ?_
  refine w_seq ?_
  refine w_seq ?_
  refine w_region ?_
  refine o_val (v_move rfl) rfl ?_
  refine o_val (v_len (ty' := 0) Try.underlying22 rfl) rfl ?_
  refine o_val (v_gtr rfl rfl) rfl ?_
  refine o_val (v_move rfl) rfl ?_
  first | refine o_boolD 20 rfl (fun h20 => ?_) (fun h20 => ?_) | refine o_bool 20 rfl (fun h20 => ?_) (fun h20 => ?_)
  ·
    refine o_pass rfl rfl rfl ?_
    refine o_pass rfl rfl rfl ?_
    refine o_pass rfl rfl rfl ?_
    refine o_val (v_pickT rfl rfl) rfl ?_
    refine o_nil ?_
    refine thn_n ?_
    refine w_condT rfl ?_
    refine w_seq ?_
    refine w_region ?_
    refine o_val (v_assign rfl) rfl ?_
    refine o_nil ?_
    refine thn_n ?_
    refine w_ret ?_
    refine (thn_r ?_)
    exact ret_ok (G := [_, _]) (res1 rfl) ⟨rfl, rfl⟩ (sub (.cons (by first | exact rr0 | exact rr1 | exact rr2 | exact rr3 | exact rr4 | exact rr5 | exact rr6 | exact rr7 | exact rr8 | exact rr9 | exact rr10 | exact rr11 | exact rr12 | exact rr13 | exact rr14) (.cons (by first | exact rr0 | exact rr1 | exact rr2 | exact rr3 | exact rr4 | exact rr5 | exact rr6 | exact rr7 | exact rr8 | exact rr9 | exact rr10 | exact rr11 | exact rr12 | exact rr13 | exact rr14) .nil)) (by first | exact dd0 | exact dd1 | exact dd2 | exact dd3 | exact dd4 | exact dd5 | exact dd6 | exact dd7 | exact dd8 | exact dd9 | exact dd10 | exact dd11 | exact dd12 | exact dd13 | exact dd14))
  ·
    refine o_want rfl ?_
    refine o_val (v_move rfl) rfl ?_
    refine o_want rfl ?_
    refine o_val (v_len (ty' := 0) Try.underlying47 rfl) rfl ?_
    refine o_want rfl ?_
    refine o_val (v_gtr rfl rfl) rfl ?_
    refine o_val (v_pickF rfl rfl) rfl ?_
    refine o_nil ?_
    refine thn_n ?_
    first | refine w_condD rfl (fun h24 => ?_) (fun h24 => ?_) | refine w_cond rfl (fun h24 => ?_) (fun h24 => ?_)
    ·
      refine w_seq ?_
      refine w_region ?_
      refine o_val (v_assign rfl) rfl ?_
      refine o_nil ?_
      refine thn_n ?_
      refine w_ret ?_
      refine (thn_r ?_)
      exact ret_ok (G := [_, _]) (res1 rfl) ⟨rfl, rfl⟩ (sub (.cons (by first | exact rr0 | exact rr1 | exact rr2 | exact rr3 | exact rr4 | exact rr5 | exact rr6 | exact rr7 | exact rr8 | exact rr9 | exact rr10 | exact rr11 | exact rr12 | exact rr13 | exact rr14) (.cons (by first | exact rr0 | exact rr1 | exact rr2 | exact rr3 | exact rr4 | exact rr5 | exact rr6 | exact rr7 | exact rr8 | exact rr9 | exact rr10 | exact rr11 | exact rr12 | exact rr13 | exact rr14) .nil)) (by first | exact dd0 | exact dd1 | exact dd2 | exact dd3 | exact dd4 | exact dd5 | exact dd6 | exact dd7 | exact dd8 | exact dd9 | exact dd10 | exact dd11 | exact dd12 | exact dd13 | exact dd14))
    ·
      refine w_skip ?_
      refine thn_n ?_
      refine w_seq ?_
      refine w_region ?_
      refine o_val (v_move rfl) rfl ?_
      refine o_call (h_new_yes p cap ls (RdR I3 p ls.length ls) (fun _ _ h => h) hE) V.b10  rfl (.cons (by first | exact rr0 | exact rr1 | exact rr2 | exact rr3 | exact rr4 | exact rr5 | exact rr6 | exact rr7 | exact rr8 | exact rr9 | exact rr10 | exact rr11 | exact rr12 | exact rr13 | exact rr14) .nil) rfl ?_
      rintro _ _ ⟨bh, rfl, rfl⟩
      refine o_val (v_move rfl) rfl ?_
      refine o_val (v_extract rfl rfl) rfl ?_
      refine o_val (v_extract rfl rfl) rfl ?_
      refine o_alloc V.z24 rfl ?_
      intro b5
      refine o_eff (v_store V.s24 rfl rfl rfl (by first | exact pp0 | exact pp1 | exact pp2 | exact pp3 | exact pp4 | exact pp5 | exact pp6 | exact pp7 | exact pp8 | exact pp9 | exact pp10 | exact pp11 | exact pp12 | exact pp13 | exact pp14) (by exact Nat.le_of_ble_eq_true rfl) rfl) ?_
      refine o_val (v_assign rfl) rfl ?_
      refine o_nil ?_
      refine thn_n ?_
      refine w_seq ?_
      refine w_seq ?_
      refine w_region ?_
      refine o_val (v_move rfl) rfl ?_
      refine o_val (v_F (v_neq rfl rfl) (fun h => h rfl)) rfl ?_
      refine o_nil ?_
      refine thn_n ?_
      refine w_condF rfl ?_
      refine w_skip ?_
      refine thn_n ?_
      refine w_seq ?_
      refine w_region ?_
      refine o_call (c_newW) V.b14  rfl .nil rfl ?_
      rintro _ _ ⟨bw, rfl, rfl⟩
      refine o_val (v_assign rfl) rfl ?_
      refine o_nil ?_
      refine thn_n ?_
      refine w_seq ?_
      refine w_seq ?_
      refine w_region ?_
      refine o_val (v_load V.s24 rfl (by first | exact mm0 | exact mm1 | exact mm2 | exact mm3 | exact mm4 | exact mm5 | exact mm6 | exact mm7 | exact mm8 | exact mm9 | exact mm10 | exact mm11 | exact mm12 | exact mm13 | exact mm14) rfl) rfl ?_
      refine o_val (v_to (v := .bool false) (v_eqnil Try.underlying24 rfl rfl) rfl) rfl ?_
      refine o_val (v_move rfl) rfl ?_
      refine o_want rfl ?_
      refine o_val (v_move rfl) rfl ?_
      refine o_want rfl ?_
      refine o_val (v_to (v := .bool false) (v_eqnil Try.underlying36 rfl rfl) rfl) rfl ?_
      refine o_val (v_pickF rfl rfl) rfl ?_
      refine o_nil ?_
      refine thn_n ?_
      refine w_condF rfl ?_
      refine w_skip ?_
      refine thn_n ?_
      refine w_seq ?_
      refine w_region ?_
      refine o_val (v_assign rfl) rfl ?_
      refine o_nil ?_
      refine thn_n ?_
      refine w_seq ?_
      refine w_seq ?_
      refine w_region ?_
      refine o_val (v_assign rfl) rfl ?_
      refine o_nil ?_
      refine thn_n ?_
      refine w_block ?_
      refine w_add0 (Row I3 none 0 0 []) (Row.nil _ _ _) ?_
      rw [show ((8 : Nat), Value.slice none 0 0) = (8, Value.slice none (HuffP.ins ls (syms.take 0)).length 0) from by rw [List.take_zero, HuffP.ins_nil]; rfl]
      refine w_loop3 (fun (k : Nat) (po : Option Addr) (co : Nat) => [(0, .slice p ls.length cap), (1, .slice q syms.length cap2), (5, .pointer (some ⟨b5, 0, none⟩)), (7, .pointer (some ⟨bw, 0, none⟩)), (8, .slice po (HuffP.ins ls (syms.take k)).length co), (9, .int .i64 (k : Int))]) (fun (k : Nat) (po : Option Addr) (co : Nat) => Cel b5 24 [.pointer (some ⟨bh, 0, none⟩)] :: HC bh ls :: WB bw (HuffP.bits ls (HuffP.ins ls (syms.take k))) :: Row I3 po (HuffP.ins ls (syms.take k)).length co (HuffP.ins ls (syms.take k)) :: RdR I3 p ls.length ls :: RdR U16 q syms.length syms :: F) (fun (k : Nat) (po : Option Addr) (co : Nat) => k ≤ syms.length) (fun (k : Nat) (po : Option Addr) (co : Nat) => syms.length - k) (i3 (0) (none) (0) ?_ (.cons rfl (.cons rfl (.cons rfl (.cons rfl (.cons rfl (.cons rfl (.nil _))))))) (by show Sub _ (Cel b5 24 [.pointer (some ⟨bh, 0, none⟩)] :: HC bh ls :: WB bw (HuffP.bits ls (HuffP.ins ls (syms.take 0))) :: Row I3 none (HuffP.ins ls (syms.take 0)).length 0 (HuffP.ins ls (syms.take 0)) :: RdR I3 p ls.length ls :: RdR U16 q syms.length syms :: F); rw [List.take_zero, HuffP.ins_nil, HuffP.bits_nil]; exact (sub (.cons (by first | exact rr0 | exact rr1 | exact rr2 | exact rr3 | exact rr4 | exact rr5 | exact rr6 | exact rr7 | exact rr8 | exact rr9 | exact rr10 | exact rr11 | exact rr12 | exact rr13 | exact rr14) (.cons (by first | exact rr0 | exact rr1 | exact rr2 | exact rr3 | exact rr4 | exact rr5 | exact rr6 | exact rr7 | exact rr8 | exact rr9 | exact rr10 | exact rr11 | exact rr12 | exact rr13 | exact rr14) (.cons (by first | exact rr0 | exact rr1 | exact rr2 | exact rr3 | exact rr4 | exact rr5 | exact rr6 | exact rr7 | exact rr8 | exact rr9 | exact rr10 | exact rr11 | exact rr12 | exact rr13 | exact rr14) (.cons (by first | exact rr0 | exact rr1 | exact rr2 | exact rr3 | exact rr4 | exact rr5 | exact rr6 | exact rr7 | exact rr8 | exact rr9 | exact rr10 | exact rr11 | exact rr12 | exact rr13 | exact rr14) (.cons (by first | exact rr0 | exact rr1 | exact rr2 | exact rr3 | exact rr4 | exact rr5 | exact rr6 | exact rr7 | exact rr8 | exact rr9 | exact rr10 | exact rr11 | exact rr12 | exact rr13 | exact rr14) (.cons (by first | exact rr0 | exact rr1 | exact rr2 | exact rr3 | exact rr4 | exact rr5 | exact rr6 | exact rr7 | exact rr8 | exact rr9 | exact rr10 | exact rr11 | exact rr12 | exact rr13 | exact rr14) .nil)))))) (by first | exact dd0 | exact dd1 | exact dd2 | exact dd3 | exact dd4 | exact dd5 | exact dd6 | exact dd7 | exact dd8 | exact dd9 | exact dd10 | exact dd11 | exact dd12 | exact dd13 | exact dd14)))) ?_
      ·
        exact Nat.zero_le _
      intro k po co
      rintro hk
      refine w_seq ?_
      refine w_seq ?_
      refine w_region ?_
      refine o_val (v_move rfl) rfl ?_
      refine o_val (v_move rfl) rfl ?_
      refine o_val (v_len (ty' := 0) Try.underlying47 rfl) rfl ?_
      refine o_val (v_lss rfl rfl) rfl ?_
      refine o_nil ?_
      refine thn_n ?_
      first | refine w_condD rfl (fun h42 => ?_) (fun h42 => ?_) | refine w_cond rfl (fun h42 => ?_) (fun h42 => ?_)
      ·
        refine w_skip ?_
        refine thn_n ?_
        refine w_seq ?_
        refine w_block ?_
        refine w_seq ?_
        have hk2 : k < syms.length := by omega
        have hgs : U16.g syms (k : Int) = syms.getD k 0 := by simp [Ec.g]
        have hsb : 0 ≤ syms.getD k 0 ∧ syms.getD k 0 < 65536 := hS _ (by simp [List.getD_eq_getElem?_getD, hk2])
        have hgl : I3.g ls (syms.getD k 0 % 330) = ls.getD (syms.getD k 0 % 330).toNat 0 := rfl
        have hil := HuffP.ins_le ls (syms.take k)
        have htl : (syms.take k).length = k := by rw [List.length_take]; omega
        have hbl := HuffP.bits_len hV (HuffP.ins ls (syms.take k))
        have hs0 : 0 ≤ (syms.getD k 0 % 330) := by omega
        refine w_region ?_
        refine o_val (v_move rfl) rfl ?_
        refine o_val (v_move rfl) rfl ?_
        refine o_val (r_index (c := (U16)) V.sl47 rfl rfl (by first | exact own mm0 | exact own mm1 | exact own mm2 | exact own mm3 | exact own mm4 | exact own mm5 | exact own mm6 | exact own mm7 | exact own mm8 | exact own mm9 | exact own mm10 | exact own mm11 | exact rdH (fun _ _ h => h) mm0 | exact rdH (fun _ _ h => h) mm1 | exact rdH (fun _ _ h => h) mm2 | exact rdH (fun _ _ h => h) mm3 | exact rdH (fun _ _ h => h) mm4 | exact rdH (fun _ _ h => h) mm5 | exact rdH (fun _ _ h => h) mm6 | exact rdH (fun _ _ h => h) mm7 | exact rdH (fun _ _ h => h) mm8 | exact rdH (fun _ _ h => h) mm9 | exact rdH (fun _ _ h => h) mm10 | exact rdH (fun _ _ h => h) mm11) (by omega) (by omega)) rfl ?_
        refine o_val (r_load (c := (U16)) V.s48 rfl (by first | exact own mm0 | exact own mm1 | exact own mm2 | exact own mm3 | exact own mm4 | exact own mm5 | exact own mm6 | exact own mm7 | exact own mm8 | exact own mm9 | exact own mm10 | exact own mm11 | exact rdH (fun _ _ h => h) mm0 | exact rdH (fun _ _ h => h) mm1 | exact rdH (fun _ _ h => h) mm2 | exact rdH (fun _ _ h => h) mm3 | exact rdH (fun _ _ h => h) mm4 | exact rdH (fun _ _ h => h) mm5 | exact rdH (fun _ _ h => h) mm6 | exact rdH (fun _ _ h => h) mm7 | exact rdH (fun _ _ h => h) mm8 | exact rdH (fun _ _ h => h) mm9 | exact rdH (fun _ _ h => h) mm10 | exact rdH (fun _ _ h => h) mm11) (by omega) (by omega) rfl rfl) rfl ?_
        refine o_val (v_conv V.u48 Try.underlying3 rfl (wrapI (by omega) (by omega))) rfl ?_
        refine o_val (v_rem (r := (syms.getD k 0 % 330)) rfl rfl (by decide) (by rw [hgs]; exact remI (by omega))) rfl ?_
        refine o_val (v_assign rfl) rfl ?_
        refine o_nil ?_
        refine thn_n ?_
        rcases (HuffP.has_cases hV hs0) with ⟨c1, c2⟩ | ⟨c1, c2, c3⟩ | ⟨c1, c4, c2⟩
        ·
          refine w_seq ?_
          refine w_region ?_
          refine o_val (v_move rfl) rfl ?_
          refine o_val (v_move rfl) rfl ?_
          refine o_val (v_len (ty' := 0) Try.underlying22 rfl) rfl ?_
          refine o_val (v_F (v_lss rfl rfl) (by omega)) rfl ?_
          refine o_val (v_move rfl) rfl ?_
          refine o_pass rfl rfl rfl ?_
          refine o_pass rfl rfl rfl ?_
          refine o_pass rfl rfl rfl ?_
          refine o_pass rfl rfl rfl ?_
          refine o_pass rfl rfl rfl ?_
          refine o_val (v_pickF rfl rfl) rfl ?_
          refine o_val (v_assign rfl) rfl ?_
          refine o_nil ?_
          refine thn_n ?_
          refine w_seq ?_
          refine w_seq ?_
          refine w_region ?_
          refine o_val (v_load V.s24 rfl (by first | exact mm0 | exact mm1 | exact mm2 | exact mm3 | exact mm4 | exact mm5 | exact mm6 | exact mm7 | exact mm8 | exact mm9 | exact mm10 | exact mm11 | exact mm12 | exact mm13 | exact mm14) rfl) rfl ?_
          refine o_val (v_move rfl) rfl ?_
          refine o_val (v_move rfl) rfl ?_
          refine o_call (h_put_no bh ls bw (HuffP.bits ls (HuffP.ins ls (syms.take k))) (syms.getD k 0 % 330) c2) V.b21  rfl (.cons (by first | exact rr0 | exact rr1 | exact rr2 | exact rr3 | exact rr4 | exact rr5 | exact rr6 | exact rr7 | exact rr8 | exact rr9 | exact rr10 | exact rr11 | exact rr12 | exact rr13 | exact rr14) (.cons (by first | exact rr0 | exact rr1 | exact rr2 | exact rr3 | exact rr4 | exact rr5 | exact rr6 | exact rr7 | exact rr8 | exact rr9 | exact rr10 | exact rr11 | exact rr12 | exact rr13 | exact rr14) .nil)) rfl ?_
          rintro _ _ ⟨rfl, rfl⟩
          refine o_val (v_move rfl) rfl ?_
          refine o_val (v_to (v := .bool false) (v_neb Try.underlying4 rfl rfl) rfl) rfl ?_
          refine o_nil ?_
          refine thn_n ?_
          refine w_condF rfl ?_
          refine w_skip ?_
          refine thn_n ?_
          refine w_seq ?_
          refine w_region ?_
          refine o_val (v_move rfl) rfl ?_
          refine o_nil ?_
          refine thn_n ?_
          refine w_condF rfl ?_
          refine w_skip ?_
          refine blk_n ?_
          refine thn_n ?_
          refine w_region ?_
          refine o_val (v_move rfl) rfl ?_
          refine o_val (v_add rfl rfl (wrapI (by omega) (by omega))) rfl ?_
          refine o_val (v_assign rfl) rfl ?_
          refine o_nil ?_
          first
          | (rw [HuffP.ins_no hk2 c2]; exact j3 (k + 1) _ _ ⟨by omega, by omega⟩ (.cons rfl (.cons rfl (.cons rfl (.cons rfl (.cons rfl (.cons rfl (.nil _))))))) (sub (.cons (by first | exact rr0 | exact rr1 | exact rr2 | exact rr3 | exact rr4 | exact rr5 | exact rr6 | exact rr7 | exact rr8 | exact rr9 | exact rr10 | exact rr11 | exact rr12 | exact rr13 | exact rr14) (.cons (by first | exact rr0 | exact rr1 | exact rr2 | exact rr3 | exact rr4 | exact rr5 | exact rr6 | exact rr7 | exact rr8 | exact rr9 | exact rr10 | exact rr11 | exact rr12 | exact rr13 | exact rr14) (.cons (by first | exact rr0 | exact rr1 | exact rr2 | exact rr3 | exact rr4 | exact rr5 | exact rr6 | exact rr7 | exact rr8 | exact rr9 | exact rr10 | exact rr11 | exact rr12 | exact rr13 | exact rr14) (.cons (by first | exact rr0 | exact rr1 | exact rr2 | exact rr3 | exact rr4 | exact rr5 | exact rr6 | exact rr7 | exact rr8 | exact rr9 | exact rr10 | exact rr11 | exact rr12 | exact rr13 | exact rr14) (.cons (by first | exact rr0 | exact rr1 | exact rr2 | exact rr3 | exact rr4 | exact rr5 | exact rr6 | exact rr7 | exact rr8 | exact rr9 | exact rr10 | exact rr11 | exact rr12 | exact rr13 | exact rr14) (.cons (by first | exact rr0 | exact rr1 | exact rr2 | exact rr3 | exact rr4 | exact rr5 | exact rr6 | exact rr7 | exact rr8 | exact rr9 | exact rr10 | exact rr11 | exact rr12 | exact rr13 | exact rr14) .nil)))))) (by first | exact dd0 | exact dd1 | exact dd2 | exact dd3 | exact dd4 | exact dd5 | exact dd6 | exact dd7 | exact dd8 | exact dd9 | exact dd10 | exact dd11 | exact dd12 | exact dd13 | exact dd14)))
          | (rw [← HuffP.bits_snoc, HuffP.ins_yes hk2 c1 c3, HuffP.ins_len hk2 c1 c3]; exact j3 (k + 1) _ _ ⟨by omega, by omega⟩ (.cons rfl (.cons rfl (.cons rfl (.cons rfl (.cons rfl (.cons rfl (.nil _))))))) (sub (.cons (by first | exact rr0 | exact rr1 | exact rr2 | exact rr3 | exact rr4 | exact rr5 | exact rr6 | exact rr7 | exact rr8 | exact rr9 | exact rr10 | exact rr11 | exact rr12 | exact rr13 | exact rr14) (.cons (by first | exact rr0 | exact rr1 | exact rr2 | exact rr3 | exact rr4 | exact rr5 | exact rr6 | exact rr7 | exact rr8 | exact rr9 | exact rr10 | exact rr11 | exact rr12 | exact rr13 | exact rr14) (.cons (by first | exact rr0 | exact rr1 | exact rr2 | exact rr3 | exact rr4 | exact rr5 | exact rr6 | exact rr7 | exact rr8 | exact rr9 | exact rr10 | exact rr11 | exact rr12 | exact rr13 | exact rr14) (.cons (by first | exact rr0 | exact rr1 | exact rr2 | exact rr3 | exact rr4 | exact rr5 | exact rr6 | exact rr7 | exact rr8 | exact rr9 | exact rr10 | exact rr11 | exact rr12 | exact rr13 | exact rr14) (.cons (by first | exact rr0 | exact rr1 | exact rr2 | exact rr3 | exact rr4 | exact rr5 | exact rr6 | exact rr7 | exact rr8 | exact rr9 | exact rr10 | exact rr11 | exact rr12 | exact rr13 | exact rr14) (.cons (by first | exact rr0 | exact rr1 | exact rr2 | exact rr3 | exact rr4 | exact rr5 | exact rr6 | exact rr7 | exact rr8 | exact rr9 | exact rr10 | exact rr11 | exact rr12 | exact rr13 | exact rr14) .nil)))))) (by first | exact dd0 | exact dd1 | exact dd2 | exact dd3 | exact dd4 | exact dd5 | exact dd6 | exact dd7 | exact dd8 | exact dd9 | exact dd10 | exact dd11 | exact dd12 | exact dd13 | exact dd14)))
        ·
          refine w_seq ?_
          refine w_region ?_
          refine o_val (v_move rfl) rfl ?_
          refine o_val (v_move rfl) rfl ?_
          refine o_val (v_len (ty' := 0) Try.underlying22 rfl) rfl ?_
          refine o_val (v_T (v_lss rfl rfl) c1) rfl ?_
          refine o_val (v_move rfl) rfl ?_
          refine o_want rfl ?_
          refine o_val (v_move rfl) rfl ?_
          refine o_want rfl ?_
          refine o_val (v_move rfl) rfl ?_
          refine o_want rfl ?_
          refine o_val (r_index (c := (I3)) V.sl22 rfl rfl (by first | exact own mm0 | exact own mm1 | exact own mm2 | exact own mm3 | exact own mm4 | exact own mm5 | exact own mm6 | exact own mm7 | exact own mm8 | exact own mm9 | exact own mm10 | exact own mm11 | exact rdH (fun _ _ h => h) mm0 | exact rdH (fun _ _ h => h) mm1 | exact rdH (fun _ _ h => h) mm2 | exact rdH (fun _ _ h => h) mm3 | exact rdH (fun _ _ h => h) mm4 | exact rdH (fun _ _ h => h) mm5 | exact rdH (fun _ _ h => h) mm6 | exact rdH (fun _ _ h => h) mm7 | exact rdH (fun _ _ h => h) mm8 | exact rdH (fun _ _ h => h) mm9 | exact rdH (fun _ _ h => h) mm10 | exact rdH (fun _ _ h => h) mm11) (by omega) (by omega)) rfl ?_
          refine o_want rfl ?_
          refine o_val (r_load (c := (I3)) V.s3 rfl (by first | exact own mm0 | exact own mm1 | exact own mm2 | exact own mm3 | exact own mm4 | exact own mm5 | exact own mm6 | exact own mm7 | exact own mm8 | exact own mm9 | exact own mm10 | exact own mm11 | exact rdH (fun _ _ h => h) mm0 | exact rdH (fun _ _ h => h) mm1 | exact rdH (fun _ _ h => h) mm2 | exact rdH (fun _ _ h => h) mm3 | exact rdH (fun _ _ h => h) mm4 | exact rdH (fun _ _ h => h) mm5 | exact rdH (fun _ _ h => h) mm6 | exact rdH (fun _ _ h => h) mm7 | exact rdH (fun _ _ h => h) mm8 | exact rdH (fun _ _ h => h) mm9 | exact rdH (fun _ _ h => h) mm10 | exact rdH (fun _ _ h => h) mm11) (by omega) (by omega) rfl rfl) rfl ?_
          refine o_want rfl ?_
          refine o_val (v_T (v_gtr rfl rfl) (by rw [hgl]; exact c2)) rfl ?_
          refine o_val (v_pickT rfl rfl) rfl ?_
          refine o_val (v_assign rfl) rfl ?_
          refine o_nil ?_
          refine thn_n ?_
          refine w_seq ?_
          refine w_seq ?_
          refine w_region ?_
          refine o_val (v_load V.s24 rfl (by first | exact mm0 | exact mm1 | exact mm2 | exact mm3 | exact mm4 | exact mm5 | exact mm6 | exact mm7 | exact mm8 | exact mm9 | exact mm10 | exact mm11 | exact mm12 | exact mm13 | exact mm14) rfl) rfl ?_
          refine o_val (v_move rfl) rfl ?_
          refine o_val (v_move rfl) rfl ?_
          refine o_call (h_put_yes bh ls bw (HuffP.bits ls (HuffP.ins ls (syms.take k))) (syms.getD k 0 % 330) hE c3 (by omega)) V.b21  rfl (.cons (by first | exact rr0 | exact rr1 | exact rr2 | exact rr3 | exact rr4 | exact rr5 | exact rr6 | exact rr7 | exact rr8 | exact rr9 | exact rr10 | exact rr11 | exact rr12 | exact rr13 | exact rr14) (.cons (by first | exact rr0 | exact rr1 | exact rr2 | exact rr3 | exact rr4 | exact rr5 | exact rr6 | exact rr7 | exact rr8 | exact rr9 | exact rr10 | exact rr11 | exact rr12 | exact rr13 | exact rr14) .nil)) rfl ?_
          rintro _ _ ⟨rfl, rfl⟩
          refine o_val (v_move rfl) rfl ?_
          refine o_val (v_to (v := .bool false) (v_neb Try.underlying4 rfl rfl) rfl) rfl ?_
          refine o_nil ?_
          refine thn_n ?_
          refine w_condF rfl ?_
          refine w_skip ?_
          refine thn_n ?_
          refine w_seq ?_
          refine w_region ?_
          refine o_val (v_move rfl) rfl ?_
          refine o_nil ?_
          refine thn_n ?_
          refine w_condT rfl ?_
          refine w_region ?_
          refine o_val (v_move rfl) rfl ?_
          refine o_val (v_move rfl) rfl ?_
          refine r_build (I3) [(syms.getD k 0 % 330)] V.sl22 V.z3 rfl rfl rfl rfl rfl rfl ?_
          intro b71
          refine r_append (c := (I3)) V.sl22 V.z3 rfl rfl rfl rfl (by first | exact rr0 | exact rr1 | exact rr2 | exact rr3 | exact rr4 | exact rr5 | exact rr6 | exact rr7 | exact rr8 | exact rr9 | exact rr10 | exact rr11 | exact rr12 | exact rr13 | exact rr14) (by first | exact own mm0 | exact own mm1 | exact own mm2 | exact own mm3 | exact own mm4 | exact own mm5 | exact own mm6 | exact own mm7 | exact own mm8 | exact own mm9 | exact own mm10 | exact own mm11 | exact rdH (fun _ _ h => h) mm0 | exact rdH (fun _ _ h => h) mm1 | exact rdH (fun _ _ h => h) mm2 | exact rdH (fun _ _ h => h) mm3 | exact rdH (fun _ _ h => h) mm4 | exact rdH (fun _ _ h => h) mm5 | exact rdH (fun _ _ h => h) mm6 | exact rdH (fun _ _ h => h) mm7 | exact rdH (fun _ _ h => h) mm8 | exact rdH (fun _ _ h => h) mm9 | exact rdH (fun _ _ h => h) mm10 | exact rdH (fun _ _ h => h) mm11) (by omega) rfl ?_
          intro p72 c72
          refine o_val (v_assign rfl) rfl ?_
          refine o_nil ?_
          refine blk_n ?_
          refine thn_n ?_
          refine w_region ?_
          refine o_val (v_move rfl) rfl ?_
          refine o_val (v_add rfl rfl (wrapI (by omega) (by omega))) rfl ?_
          refine o_val (v_assign rfl) rfl ?_
          refine o_nil ?_
          first
          | (rw [HuffP.ins_no hk2 c2]; exact j3 (k + 1) _ _ ⟨by omega, by omega⟩ (.cons rfl (.cons rfl (.cons rfl (.cons rfl (.cons rfl (.cons rfl (.nil _))))))) (sub (.cons (by first | exact rr0 | exact rr1 | exact rr2 | exact rr3 | exact rr4 | exact rr5 | exact rr6 | exact rr7 | exact rr8 | exact rr9 | exact rr10 | exact rr11 | exact rr12 | exact rr13 | exact rr14) (.cons (by first | exact rr0 | exact rr1 | exact rr2 | exact rr3 | exact rr4 | exact rr5 | exact rr6 | exact rr7 | exact rr8 | exact rr9 | exact rr10 | exact rr11 | exact rr12 | exact rr13 | exact rr14) (.cons (by first | exact rr0 | exact rr1 | exact rr2 | exact rr3 | exact rr4 | exact rr5 | exact rr6 | exact rr7 | exact rr8 | exact rr9 | exact rr10 | exact rr11 | exact rr12 | exact rr13 | exact rr14) (.cons (by first | exact rr0 | exact rr1 | exact rr2 | exact rr3 | exact rr4 | exact rr5 | exact rr6 | exact rr7 | exact rr8 | exact rr9 | exact rr10 | exact rr11 | exact rr12 | exact rr13 | exact rr14) (.cons (by first | exact rr0 | exact rr1 | exact rr2 | exact rr3 | exact rr4 | exact rr5 | exact rr6 | exact rr7 | exact rr8 | exact rr9 | exact rr10 | exact rr11 | exact rr12 | exact rr13 | exact rr14) (.cons (by first | exact rr0 | exact rr1 | exact rr2 | exact rr3 | exact rr4 | exact rr5 | exact rr6 | exact rr7 | exact rr8 | exact rr9 | exact rr10 | exact rr11 | exact rr12 | exact rr13 | exact rr14) .nil)))))) (by first | exact dd0 | exact dd1 | exact dd2 | exact dd3 | exact dd4 | exact dd5 | exact dd6 | exact dd7 | exact dd8 | exact dd9 | exact dd10 | exact dd11 | exact dd12 | exact dd13 | exact dd14)))
          | (rw [← HuffP.bits_snoc, HuffP.ins_yes hk2 c1 c3, HuffP.ins_len hk2 c1 c3]; exact j3 (k + 1) _ _ ⟨by omega, by omega⟩ (.cons rfl (.cons rfl (.cons rfl (.cons rfl (.cons rfl (.cons rfl (.nil _))))))) (sub (.cons (by first | exact rr0 | exact rr1 | exact rr2 | exact rr3 | exact rr4 | exact rr5 | exact rr6 | exact rr7 | exact rr8 | exact rr9 | exact rr10 | exact rr11 | exact rr12 | exact rr13 | exact rr14) (.cons (by first | exact rr0 | exact rr1 | exact rr2 | exact rr3 | exact rr4 | exact rr5 | exact rr6 | exact rr7 | exact rr8 | exact rr9 | exact rr10 | exact rr11 | exact rr12 | exact rr13 | exact rr14) (.cons (by first | exact rr0 | exact rr1 | exact rr2 | exact rr3 | exact rr4 | exact rr5 | exact rr6 | exact rr7 | exact rr8 | exact rr9 | exact rr10 | exact rr11 | exact rr12 | exact rr13 | exact rr14) (.cons (by first | exact rr0 | exact rr1 | exact rr2 | exact rr3 | exact rr4 | exact rr5 | exact rr6 | exact rr7 | exact rr8 | exact rr9 | exact rr10 | exact rr11 | exact rr12 | exact rr13 | exact rr14) (.cons (by first | exact rr0 | exact rr1 | exact rr2 | exact rr3 | exact rr4 | exact rr5 | exact rr6 | exact rr7 | exact rr8 | exact rr9 | exact rr10 | exact rr11 | exact rr12 | exact rr13 | exact rr14) (.cons (by first | exact rr0 | exact rr1 | exact rr2 | exact rr3 | exact rr4 | exact rr5 | exact rr6 | exact rr7 | exact rr8 | exact rr9 | exact rr10 | exact rr11 | exact rr12 | exact rr13 | exact rr14) .nil)))))) (by first | exact dd0 | exact dd1 | exact dd2 | exact dd3 | exact dd4 | exact dd5 | exact dd6 | exact dd7 | exact dd8 | exact dd9 | exact dd10 | exact dd11 | exact dd12 | exact dd13 | exact dd14)))
        ·
          refine w_seq ?_
          refine w_region ?_
          refine o_val (v_move rfl) rfl ?_
          refine o_val (v_move rfl) rfl ?_
          refine o_val (v_len (ty' := 0) Try.underlying22 rfl) rfl ?_
          refine o_val (v_T (v_lss rfl rfl) c1) rfl ?_
          refine o_val (v_move rfl) rfl ?_
          refine o_want rfl ?_
          refine o_val (v_move rfl) rfl ?_
          refine o_want rfl ?_
          refine o_val (v_move rfl) rfl ?_
          refine o_want rfl ?_
          refine o_val (r_index (c := (I3)) V.sl22 rfl rfl (by first | exact own mm0 | exact own mm1 | exact own mm2 | exact own mm3 | exact own mm4 | exact own mm5 | exact own mm6 | exact own mm7 | exact own mm8 | exact own mm9 | exact own mm10 | exact own mm11 | exact rdH (fun _ _ h => h) mm0 | exact rdH (fun _ _ h => h) mm1 | exact rdH (fun _ _ h => h) mm2 | exact rdH (fun _ _ h => h) mm3 | exact rdH (fun _ _ h => h) mm4 | exact rdH (fun _ _ h => h) mm5 | exact rdH (fun _ _ h => h) mm6 | exact rdH (fun _ _ h => h) mm7 | exact rdH (fun _ _ h => h) mm8 | exact rdH (fun _ _ h => h) mm9 | exact rdH (fun _ _ h => h) mm10 | exact rdH (fun _ _ h => h) mm11) (by omega) (by omega)) rfl ?_
          refine o_want rfl ?_
          refine o_val (r_load (c := (I3)) V.s3 rfl (by first | exact own mm0 | exact own mm1 | exact own mm2 | exact own mm3 | exact own mm4 | exact own mm5 | exact own mm6 | exact own mm7 | exact own mm8 | exact own mm9 | exact own mm10 | exact own mm11 | exact rdH (fun _ _ h => h) mm0 | exact rdH (fun _ _ h => h) mm1 | exact rdH (fun _ _ h => h) mm2 | exact rdH (fun _ _ h => h) mm3 | exact rdH (fun _ _ h => h) mm4 | exact rdH (fun _ _ h => h) mm5 | exact rdH (fun _ _ h => h) mm6 | exact rdH (fun _ _ h => h) mm7 | exact rdH (fun _ _ h => h) mm8 | exact rdH (fun _ _ h => h) mm9 | exact rdH (fun _ _ h => h) mm10 | exact rdH (fun _ _ h => h) mm11) (by omega) (by omega) rfl rfl) rfl ?_
          refine o_want rfl ?_
          refine o_val (v_F (v_gtr rfl rfl) (by rw [hgl]; exact c4)) rfl ?_
          refine o_val (v_pickT rfl rfl) rfl ?_
          refine o_val (v_assign rfl) rfl ?_
          refine o_nil ?_
          refine thn_n ?_
          refine w_seq ?_
          refine w_seq ?_
          refine w_region ?_
          refine o_val (v_load V.s24 rfl (by first | exact mm0 | exact mm1 | exact mm2 | exact mm3 | exact mm4 | exact mm5 | exact mm6 | exact mm7 | exact mm8 | exact mm9 | exact mm10 | exact mm11 | exact mm12 | exact mm13 | exact mm14) rfl) rfl ?_
          refine o_val (v_move rfl) rfl ?_
          refine o_val (v_move rfl) rfl ?_
          refine o_call (h_put_no bh ls bw (HuffP.bits ls (HuffP.ins ls (syms.take k))) (syms.getD k 0 % 330) c2) V.b21  rfl (.cons (by first | exact rr0 | exact rr1 | exact rr2 | exact rr3 | exact rr4 | exact rr5 | exact rr6 | exact rr7 | exact rr8 | exact rr9 | exact rr10 | exact rr11 | exact rr12 | exact rr13 | exact rr14) (.cons (by first | exact rr0 | exact rr1 | exact rr2 | exact rr3 | exact rr4 | exact rr5 | exact rr6 | exact rr7 | exact rr8 | exact rr9 | exact rr10 | exact rr11 | exact rr12 | exact rr13 | exact rr14) .nil)) rfl ?_
          rintro _ _ ⟨rfl, rfl⟩
          refine o_val (v_move rfl) rfl ?_
          refine o_val (v_to (v := .bool false) (v_neb Try.underlying4 rfl rfl) rfl) rfl ?_
          refine o_nil ?_
          refine thn_n ?_
          refine w_condF rfl ?_
          refine w_skip ?_
          refine thn_n ?_
          refine w_seq ?_
          refine w_region ?_
          refine o_val (v_move rfl) rfl ?_
          refine o_nil ?_
          refine thn_n ?_
          refine w_condF rfl ?_
          refine w_skip ?_
          refine blk_n ?_
          refine thn_n ?_
          refine w_region ?_
          refine o_val (v_move rfl) rfl ?_
          refine o_val (v_add rfl rfl (wrapI (by omega) (by omega))) rfl ?_
          refine o_val (v_assign rfl) rfl ?_
          refine o_nil ?_
          first
          | (rw [HuffP.ins_no hk2 c2]; exact j3 (k + 1) _ _ ⟨by omega, by omega⟩ (.cons rfl (.cons rfl (.cons rfl (.cons rfl (.cons rfl (.cons rfl (.nil _))))))) (sub (.cons (by first | exact rr0 | exact rr1 | exact rr2 | exact rr3 | exact rr4 | exact rr5 | exact rr6 | exact rr7 | exact rr8 | exact rr9 | exact rr10 | exact rr11 | exact rr12 | exact rr13 | exact rr14) (.cons (by first | exact rr0 | exact rr1 | exact rr2 | exact rr3 | exact rr4 | exact rr5 | exact rr6 | exact rr7 | exact rr8 | exact rr9 | exact rr10 | exact rr11 | exact rr12 | exact rr13 | exact rr14) (.cons (by first | exact rr0 | exact rr1 | exact rr2 | exact rr3 | exact rr4 | exact rr5 | exact rr6 | exact rr7 | exact rr8 | exact rr9 | exact rr10 | exact rr11 | exact rr12 | exact rr13 | exact rr14) (.cons (by first | exact rr0 | exact rr1 | exact rr2 | exact rr3 | exact rr4 | exact rr5 | exact rr6 | exact rr7 | exact rr8 | exact rr9 | exact rr10 | exact rr11 | exact rr12 | exact rr13 | exact rr14) (.cons (by first | exact rr0 | exact rr1 | exact rr2 | exact rr3 | exact rr4 | exact rr5 | exact rr6 | exact rr7 | exact rr8 | exact rr9 | exact rr10 | exact rr11 | exact rr12 | exact rr13 | exact rr14) (.cons (by first | exact rr0 | exact rr1 | exact rr2 | exact rr3 | exact rr4 | exact rr5 | exact rr6 | exact rr7 | exact rr8 | exact rr9 | exact rr10 | exact rr11 | exact rr12 | exact rr13 | exact rr14) .nil)))))) (by first | exact dd0 | exact dd1 | exact dd2 | exact dd3 | exact dd4 | exact dd5 | exact dd6 | exact dd7 | exact dd8 | exact dd9 | exact dd10 | exact dd11 | exact dd12 | exact dd13 | exact dd14)))
          | (rw [← HuffP.bits_snoc, HuffP.ins_yes hk2 c1 c3, HuffP.ins_len hk2 c1 c3]; exact j3 (k + 1) _ _ ⟨by omega, by omega⟩ (.cons rfl (.cons rfl (.cons rfl (.cons rfl (.cons rfl (.cons rfl (.nil _))))))) (sub (.cons (by first | exact rr0 | exact rr1 | exact rr2 | exact rr3 | exact rr4 | exact rr5 | exact rr6 | exact rr7 | exact rr8 | exact rr9 | exact rr10 | exact rr11 | exact rr12 | exact rr13 | exact rr14) (.cons (by first | exact rr0 | exact rr1 | exact rr2 | exact rr3 | exact rr4 | exact rr5 | exact rr6 | exact rr7 | exact rr8 | exact rr9 | exact rr10 | exact rr11 | exact rr12 | exact rr13 | exact rr14) (.cons (by first | exact rr0 | exact rr1 | exact rr2 | exact rr3 | exact rr4 | exact rr5 | exact rr6 | exact rr7 | exact rr8 | exact rr9 | exact rr10 | exact rr11 | exact rr12 | exact rr13 | exact rr14) (.cons (by first | exact rr0 | exact rr1 | exact rr2 | exact rr3 | exact rr4 | exact rr5 | exact rr6 | exact rr7 | exact rr8 | exact rr9 | exact rr10 | exact rr11 | exact rr12 | exact rr13 | exact rr14) (.cons (by first | exact rr0 | exact rr1 | exact rr2 | exact rr3 | exact rr4 | exact rr5 | exact rr6 | exact rr7 | exact rr8 | exact rr9 | exact rr10 | exact rr11 | exact rr12 | exact rr13 | exact rr14) (.cons (by first | exact rr0 | exact rr1 | exact rr2 | exact rr3 | exact rr4 | exact rr5 | exact rr6 | exact rr7 | exact rr8 | exact rr9 | exact rr10 | exact rr11 | exact rr12 | exact rr13 | exact rr14) .nil)))))) (by first | exact dd0 | exact dd1 | exact dd2 | exact dd3 | exact dd4 | exact dd5 | exact dd6 | exact dd7 | exact dd8 | exact dd9 | exact dd10 | exact dd11 | exact dd12 | exact dd13 | exact dd14)))
      ·
        refine w_exit ?_
        refine thn_e ?_
        refine thn_e ?_
        refine blk_x ?_
        refine thn_n ?_
        refine w_seq ?_
        have hkn : k = syms.length := by omega
        subst hkn
        rw [List.take_length] at *
        have hil := HuffP.ins_le ls syms
        have hbl := HuffP.bits_len hV (HuffP.ins ls syms)
        refine w_region ?_
        refine o_val (v_move rfl) rfl ?_
        refine o_call (c_outW bw (HuffP.bits ls (HuffP.ins ls syms)) (by omega)) V.b22  rfl (.cons (by first | exact rr0 | exact rr1 | exact rr2 | exact rr3 | exact rr4 | exact rr5 | exact rr6 | exact rr7 | exact rr8 | exact rr9 | exact rr10 | exact rr11 | exact rr12 | exact rr13 | exact rr14) .nil) rfl ?_
        rintro _ _ ⟨out, fr, q5, c5, hpk, hf8, rfl, rfl⟩
        have hlen := hpk.len
        have hby := hpk.byt
        refine o_call (c_newLow q5 c5 out (Row U5 q5 out.length c5 out) (fun _ _ h => h.rd) (by omega)) V.b14  rfl (.cons (by first | exact rr0 | exact rr1 | exact rr2 | exact rr3 | exact rr4 | exact rr5 | exact rr6 | exact rr7 | exact rr8 | exact rr9 | exact rr10 | exact rr11 | exact rr12 | exact rr13 | exact rr14) .nil) rfl ?_
        rintro _ _ ⟨bx, rfl, rfl⟩
        refine o_alloc V.z36 rfl ?_
        intro b12
        refine o_eff (v_store V.s36 rfl rfl rfl (by first | exact pp0 | exact pp1 | exact pp2 | exact pp3 | exact pp4 | exact pp5 | exact pp6 | exact pp7 | exact pp8 | exact pp9 | exact pp10 | exact pp11 | exact pp12 | exact pp13 | exact pp14) (by exact Nat.le_of_ble_eq_true rfl) rfl) ?_
        refine o_nil ?_
        refine thn_n ?_
        refine w_seq ?_
        refine w_seq ?_
        refine w_region ?_
        refine o_val (v_assign rfl) rfl ?_
        refine o_nil ?_
        refine thn_n ?_
        refine w_block ?_
        refine w_loop1 (fun (j : Nat) => [(5, .pointer (some ⟨b5, 0, none⟩)), (8, .slice po (HuffP.ins ls syms).length co), (12, .pointer (some ⟨b12, 0, none⟩)), (13, .int .i64 (j : Int))]) (fun (j : Nat) => Cel b5 24 [.pointer (some ⟨bh, 0, none⟩)] :: HC bh ls :: Row I3 po (HuffP.ins ls syms).length co (HuffP.ins ls syms) :: Cel b12 36 [.pointer (some ⟨bx, 0, none⟩)] :: LW bx out (HuffP.bits ls ((HuffP.ins ls syms).take j)).length [] 0 :: RdR I3 p ls.length ls :: RdR U16 q syms.length syms :: F) (fun (j : Nat) => j ≤ (HuffP.ins ls syms).length) (fun (j : Nat) => (HuffP.ins ls syms).length - j) (i1 (0) ?_ (.cons rfl (.cons rfl (.cons rfl (.cons rfl (.nil _))))) (by show Sub _ (Cel b5 24 [.pointer (some ⟨bh, 0, none⟩)] :: HC bh ls :: Row I3 po (HuffP.ins ls syms).length co (HuffP.ins ls syms) :: Cel b12 36 [.pointer (some ⟨bx, 0, none⟩)] :: LW bx out (HuffP.bits ls ((HuffP.ins ls syms).take 0)).length [] 0 :: RdR I3 p ls.length ls :: RdR U16 q syms.length syms :: F); rw [List.take_zero, HuffP.bits_nil]; exact (sub (.cons (by first | exact rr0 | exact rr1 | exact rr2 | exact rr3 | exact rr4 | exact rr5 | exact rr6 | exact rr7 | exact rr8 | exact rr9 | exact rr10 | exact rr11 | exact rr12 | exact rr13 | exact rr14) (.cons (by first | exact rr0 | exact rr1 | exact rr2 | exact rr3 | exact rr4 | exact rr5 | exact rr6 | exact rr7 | exact rr8 | exact rr9 | exact rr10 | exact rr11 | exact rr12 | exact rr13 | exact rr14) (.cons (by first | exact rr0 | exact rr1 | exact rr2 | exact rr3 | exact rr4 | exact rr5 | exact rr6 | exact rr7 | exact rr8 | exact rr9 | exact rr10 | exact rr11 | exact rr12 | exact rr13 | exact rr14) (.cons (by first | exact rr0 | exact rr1 | exact rr2 | exact rr3 | exact rr4 | exact rr5 | exact rr6 | exact rr7 | exact rr8 | exact rr9 | exact rr10 | exact rr11 | exact rr12 | exact rr13 | exact rr14) (.cons (by first | exact rr0 | exact rr1 | exact rr2 | exact rr3 | exact rr4 | exact rr5 | exact rr6 | exact rr7 | exact rr8 | exact rr9 | exact rr10 | exact rr11 | exact rr12 | exact rr13 | exact rr14) (.cons (by first | exact rr0 | exact rr1 | exact rr2 | exact rr3 | exact rr4 | exact rr5 | exact rr6 | exact rr7 | exact rr8 | exact rr9 | exact rr10 | exact rr11 | exact rr12 | exact rr13 | exact rr14) (.cons (by first | exact rr0 | exact rr1 | exact rr2 | exact rr3 | exact rr4 | exact rr5 | exact rr6 | exact rr7 | exact rr8 | exact rr9 | exact rr10 | exact rr11 | exact rr12 | exact rr13 | exact rr14) .nil))))))) (by first | exact dd0 | exact dd1 | exact dd2 | exact dd3 | exact dd4 | exact dd5 | exact dd6 | exact dd7 | exact dd8 | exact dd9 | exact dd10 | exact dd11 | exact dd12 | exact dd13 | exact dd14)))) ?_
        ·
          exact Nat.zero_le _
        intro j
        rintro hj
        refine w_seq ?_
        refine w_seq ?_
        refine w_region ?_
        refine o_val (v_move rfl) rfl ?_
        refine o_val (v_move rfl) rfl ?_
        refine o_val (v_len (ty' := 0) Try.underlying22 rfl) rfl ?_
        refine o_val (v_lss rfl rfl) rfl ?_
        refine o_nil ?_
        refine thn_n ?_
        first | refine w_condD rfl (fun h79 => ?_) (fun h79 => ?_) | refine w_cond rfl (fun h79 => ?_) (fun h79 => ?_)
        ·
          refine w_skip ?_
          refine thn_n ?_
          refine w_seq ?_
          refine w_block ?_
          refine w_seq ?_
          have hba := HuffP.back_at hE hpk (by omega : j < (HuffP.ins ls syms).length)
          refine w_region ?_
          refine o_alloc V.z3 rfl ?_
          intro b14
          refine o_eff (v_store V.s3 rfl rfl rfl (by first | exact pp0 | exact pp1 | exact pp2 | exact pp3 | exact pp4 | exact pp5 | exact pp6 | exact pp7 | exact pp8 | exact pp9 | exact pp10 | exact pp11 | exact pp12 | exact pp13 | exact pp14) (by exact Nat.le_of_ble_eq_true rfl) rfl) ?_
          refine o_nil ?_
          refine thn_n ?_
          refine w_seq ?_
          refine w_net [⟨[], [], [5, 12, 14], 0, 0⟩, ⟨[0], [0], [], 0, 0⟩, ⟨[0, 1], [1], [], 0, 0⟩, ⟨[0, 1, 2], [2], [], 0, 0⟩, ⟨[0, 1, 2, 3], [3], [14], 0, 0⟩, ⟨[0, 1, 2, 3], [3], [8], 0, 0⟩, ⟨[0, 1, 2, 3], [3], [13], 0, 0⟩, ⟨[0, 1, 2, 3, 5, 6], [5, 6, 3], [], 0, 0⟩, ⟨[0, 1, 2, 3, 5, 6, 7], [7, 3], [], 0, 0⟩, ⟨[0, 1, 2, 3, 4, 5, 6, 7, 8], [4, 8, 3], [], 0, 0⟩, ⟨[0, 1, 2, 3, 4, 5, 6, 7, 8, 9], [3, 9], [], 0, 0⟩] [⟨fun y => Cel b14 3 [.int .i64 (-1)], none, some 1, []⟩, ⟨fun y => Cel b5 24 [.pointer (some ⟨bh, 0, none⟩)], none, some 1, []⟩, ⟨fun y => HC bh ls, none, some 1, []⟩, ⟨fun y => Row I3 po (HuffP.ins ls syms).length co (HuffP.ins ls syms), none, none, [7, 8]⟩, ⟨fun y => Cel b12 36 [.pointer (some ⟨bx, 0, none⟩)], none, some 1, []⟩, ⟨fun y => LW bx out (HuffP.bits ls ((HuffP.ins ls syms).take j)).length [] 0, none, some 1, []⟩, ⟨fun y => RdR I3 p ls.length ls, none, none, []⟩, ⟨fun y => RdR U16 q syms.length syms, none, none, []⟩, ⟨fun y => Cel b14 3 [.int .i64 ((HuffP.ins ls syms).getD j 0)], some 1, none, [4]⟩, ⟨fun y => Cel b5 24 [.pointer (some ⟨bh, 0, none⟩)], some 1, none, []⟩, ⟨fun y => Cel b12 36 [.pointer (some ⟨bx, 0, none⟩)], some 1, none, []⟩, ⟨fun y => HC bh ls, some 1, none, []⟩, ⟨fun y => LW bx out ((HuffP.bits ls ((HuffP.ins ls syms).take j)).length + (HuffP.wb ls ((HuffP.ins ls syms).getD j 0)).length) [] 0, some 1, none, []⟩] F V.mixed (by kernel_rfl) rfl (fun _ => .refl _) (locT_0 _ (locT_0 _ (locT_0 _ (locT_0 _ (locT_0 _ (locT_0 _ (locT_0 _ (locT_0 _ (locT_1 [0] rfl (by intro y y2 h; rfl) (locT_1 [0] rfl (by intro y y2 h; rfl) (locT_1 [0] rfl (by intro y y2 h; rfl) (locT_1 [0] rfl (by intro y y2 h; rfl) (locT_1 [0] rfl (by intro y y2 h; rfl) locT_nil))))))))))))) ?_
          refine net_pure (fun y => [(5, _), (12, _), (14, _)]) (fun y => rfl) rfl rfl rfl (fun y hA L => st_v (v_fn (fs := []) (cs := [_, _, _]) rfl rfl) ⟨rfl, rfl⟩) (by intros; rfl) (by intro y y2 h; rfl) ?_
          refine net_eff (fun y => [Cel b14 3 [.int .i64 (-1)], Cel b5 24 [.pointer (some ⟨bh, 0, none⟩)], HC bh ls, Cel b12 36 [.pointer (some ⟨bx, 0, none⟩)], LW bx out (HuffP.bits ls ((HuffP.ins ls syms).take j)).length [] 0]) (fun y => []) (fun y => [Cel b14 3 [.int .i64 ((HuffP.ins ls syms).getD j 0)], Cel b5 24 [.pointer (some ⟨bh, 0, none⟩)], Cel b12 36 [.pointer (some ⟨bx, 0, none⟩)], HC bh ls, LW bx out ((HuffP.bits ls ((HuffP.ins ls syms).take j)).length + (HuffP.wb ls ((HuffP.ins ls syms).getD j 0)).length) [] 0]) (fun y => [(82, _)]) (fun y => rfl) (fun y => rfl) (fun y => rfl) (fun y => rfl) (fun y FF hA => st_callN (Post := [Cel b14 3 [.int .i64 ((HuffP.ins ls syms).getD j 0)], Cel b5 24 [.pointer (some ⟨bh, 0, none⟩)], Cel b12 36 [.pointer (some ⟨bx, 0, none⟩)], HC bh ls, LW bx out ((HuffP.bits ls ((HuffP.ins ls syms).take j)).length + (HuffP.wb ls ((HuffP.ins ls syms).getD j 0)).length) [] 0]) (guard_ok (R := fun G => G = [Cel b14 3 [.int .i64 ((HuffP.ins ls syms).getD j 0)], Cel b5 24 [.pointer (some ⟨bh, 0, none⟩)], Cel b12 36 [.pointer (some ⟨bx, 0, none⟩)], HC bh ls, LW bx out ((HuffP.bits ls ((HuffP.ins ls syms).take j)).length + (HuffP.wb ls ((HuffP.ins ls syms).getD j 0)).length) [] 0]) (t1_hitBack b5 b12 b14 (-1) bh ls bx out (HuffP.bits ls ((HuffP.ins ls syms).take j)).length [] 0 hE (by omega) hby hba.2.2 hba.1) V.b23) V.b15 rfl (.cons (by first | exact rr0 | exact rr1 | exact rr2 | exact rr3 | exact rr4 | exact rr5 | exact rr6 | exact rr7 | exact rr8 | exact rr9 | exact rr10 | exact rr11 | exact rr12 | exact rr13 | exact rr14) (.cons (by first | exact rr0 | exact rr1 | exact rr2 | exact rr3 | exact rr4 | exact rr5 | exact rr6 | exact rr7 | exact rr8 | exact rr9 | exact rr10 | exact rr11 | exact rr12 | exact rr13 | exact rr14) (.cons (by first | exact rr0 | exact rr1 | exact rr2 | exact rr3 | exact rr4 | exact rr5 | exact rr6 | exact rr7 | exact rr8 | exact rr9 | exact rr10 | exact rr11 | exact rr12 | exact rr13 | exact rr14) (.cons (by first | exact rr0 | exact rr1 | exact rr2 | exact rr3 | exact rr4 | exact rr5 | exact rr6 | exact rr7 | exact rr8 | exact rr9 | exact rr10 | exact rr11 | exact rr12 | exact rr13 | exact rr14) (.cons (by first | exact rr0 | exact rr1 | exact rr2 | exact rr3 | exact rr4 | exact rr5 | exact rr6 | exact rr7 | exact rr8 | exact rr9 | exact rr10 | exact rr11 | exact rr12 | exact rr13 | exact rr14) .nil))))) (fun v G h => by rcases h with ⟨rfl, rfl⟩; exact ⟨rfl, .refl _⟩)) (by intros; rfl) (by intros; rfl) (by intro y y2 h; rfl) ?_
          refine net_pure (fun y => [(83, _)]) (fun y => rfl) rfl rfl rfl (fun y hA L => st_v (v_to (v := .bool false) (v_not rfl) rfl) ⟨rfl, rfl⟩) (by intros; rfl) (by intro y y2 h; rfl) ?_
          refine net_pure (fun y => [(84, _)]) (fun y => rfl) rfl rfl rfl (fun y hA L => st_v (v_move rfl) ⟨rfl, rfl⟩) (by intros; rfl) (by intro y y2 h; rfl) ?_
          refine net_read (fun y => [Cel b14 3 [.int .i64 ((HuffP.ins ls syms).getD j 0)]]) (fun y => [(85, _), (14, _)]) (fun y => rfl) rfl (fun y => rfl) rfl (fun y FF hA => st_want rfl (st_v (v_load V.s3 rfl (by first | exact mm0 | exact mm1 | exact mm2 | exact mm3 | exact mm4 | exact mm5 | exact mm6 | exact mm7 | exact mm8 | exact mm9 | exact mm10 | exact mm11 | exact mm12 | exact mm13 | exact mm14) rfl) ⟨rfl, rfl⟩)) (by intros; rfl) (by intro y y2 h; rfl) ?_
          refine net_pure (fun y => [(85, _), (8, _)]) (fun y => rfl) rfl rfl rfl (fun y hA L => st_want rfl (st_v (v_move rfl) ⟨rfl, rfl⟩)) (by intros; rfl) (by intro y y2 h; rfl) ?_
          refine net_pure (fun y => [(85, _), (13, _)]) (fun y => rfl) rfl rfl rfl (fun y hA L => st_want rfl (st_v (v_move rfl) ⟨rfl, rfl⟩)) (by intros; rfl) (by intro y y2 h; rfl) ?_
          refine net_read (fun y => [Row I3 po (HuffP.ins ls syms).length co (HuffP.ins ls syms)]) (fun y => [(87, _), (88, _), (85, _)]) (fun y => rfl) rfl (fun y => rfl) rfl (fun y FF hA => st_want rfl (st_v (r_index (c := (I3)) V.sl22 rfl rfl (by first | exact own mm0 | exact own mm1 | exact own mm2 | exact own mm3 | exact own mm4 | exact own mm5 | exact own mm6 | exact own mm7 | exact own mm8 | exact own mm9 | exact own mm10 | exact own mm11 | exact rdH (fun _ _ h => h) mm0 | exact rdH (fun _ _ h => h) mm1 | exact rdH (fun _ _ h => h) mm2 | exact rdH (fun _ _ h => h) mm3 | exact rdH (fun _ _ h => h) mm4 | exact rdH (fun _ _ h => h) mm5 | exact rdH (fun _ _ h => h) mm6 | exact rdH (fun _ _ h => h) mm7 | exact rdH (fun _ _ h => h) mm8 | exact rdH (fun _ _ h => h) mm9 | exact rdH (fun _ _ h => h) mm10 | exact rdH (fun _ _ h => h) mm11) (by omega) (by omega)) ⟨rfl, rfl⟩)) (by intros; rfl) (by intro y y2 h; rfl) ?_
          refine net_read (fun y => [Row I3 po (HuffP.ins ls syms).length co (HuffP.ins ls syms)]) (fun y => [(89, _), (85, _)]) (fun y => rfl) rfl (fun y => rfl) rfl (fun y FF hA => st_want rfl (st_v (r_load (c := (I3)) V.s3 rfl (by first | exact own mm0 | exact own mm1 | exact own mm2 | exact own mm3 | exact own mm4 | exact own mm5 | exact own mm6 | exact own mm7 | exact own mm8 | exact own mm9 | exact own mm10 | exact own mm11 | exact rdH (fun _ _ h => h) mm0 | exact rdH (fun _ _ h => h) mm1 | exact rdH (fun _ _ h => h) mm2 | exact rdH (fun _ _ h => h) mm3 | exact rdH (fun _ _ h => h) mm4 | exact rdH (fun _ _ h => h) mm5 | exact rdH (fun _ _ h => h) mm6 | exact rdH (fun _ _ h => h) mm7 | exact rdH (fun _ _ h => h) mm8 | exact rdH (fun _ _ h => h) mm9 | exact rdH (fun _ _ h => h) mm10 | exact rdH (fun _ _ h => h) mm11) (by omega) (by omega) rfl rfl) ⟨rfl, rfl⟩)) (by intros; rfl) (by intro y y2 h; rfl) ?_
          refine net_pure (fun y => [(86, _), (90, _), (85, _)]) (fun y => rfl) rfl rfl rfl (fun y hA L => st_want rfl (st_v (v_F (v_neq rfl rfl) (fun h => h rfl)) ⟨rfl, rfl⟩)) (by intros; rfl) (by intro y y2 h; rfl) ?_
          refine net_pure (fun y => [(85, _), (91, _)]) (fun y => rfl) rfl rfl rfl (fun y hA L => st_v (v_pickF rfl rfl) ⟨rfl, rfl⟩) (by intros; rfl) (by intro y y2 h; rfl) ?_
          refine net_nil ?_
          intro y hA
          clear hA
          refine thn_n ?_
          refine w_keep _ (.cons (d := 5) rfl (.cons (d := 8) rfl (.cons (d := 12) rfl (.cons (d := 13) rfl (.cons (d := 92) rfl (.nil _)))))) ?_
          refine w_sub (M := Row I3 po (HuffP.ins ls syms).length co (HuffP.ins ls syms) :: RdR I3 p ls.length ls :: RdR U16 q syms.length syms :: Cel b14 3 [.int .i64 ((HuffP.ins ls syms).getD j 0)] :: Cel b5 24 [.pointer (some ⟨bh, 0, none⟩)] :: Cel b12 36 [.pointer (some ⟨bx, 0, none⟩)] :: HC bh ls :: LW bx out ((HuffP.bits ls ((HuffP.ins ls syms).take j)).length + (HuffP.wb ls ((HuffP.ins ls syms).getD j 0)).length) [] 0 :: F) (fun _ _ h => h) ?_
          refine w_condF rfl ?_
          refine w_skip ?_
          refine blk_n ?_
          refine thn_n ?_
          refine w_region ?_
          refine o_val (v_move rfl) rfl ?_
          refine o_val (v_add rfl rfl (wrapI (by omega) (by omega))) rfl ?_
          refine o_val (v_assign rfl) rfl ?_
          refine o_nil ?_
          rw [hba.2.1]
          refine j1 (j + 1) ?_ (.cons rfl (.cons rfl (.cons rfl (.cons rfl (.nil _))))) (sub (.cons (by first | exact rr0 | exact rr1 | exact rr2 | exact rr3 | exact rr4 | exact rr5 | exact rr6 | exact rr7 | exact rr8 | exact rr9 | exact rr10 | exact rr11 | exact rr12 | exact rr13 | exact rr14) (.cons (by first | exact rr0 | exact rr1 | exact rr2 | exact rr3 | exact rr4 | exact rr5 | exact rr6 | exact rr7 | exact rr8 | exact rr9 | exact rr10 | exact rr11 | exact rr12 | exact rr13 | exact rr14) (.cons (by first | exact rr0 | exact rr1 | exact rr2 | exact rr3 | exact rr4 | exact rr5 | exact rr6 | exact rr7 | exact rr8 | exact rr9 | exact rr10 | exact rr11 | exact rr12 | exact rr13 | exact rr14) (.cons (by first | exact rr0 | exact rr1 | exact rr2 | exact rr3 | exact rr4 | exact rr5 | exact rr6 | exact rr7 | exact rr8 | exact rr9 | exact rr10 | exact rr11 | exact rr12 | exact rr13 | exact rr14) (.cons (by first | exact rr0 | exact rr1 | exact rr2 | exact rr3 | exact rr4 | exact rr5 | exact rr6 | exact rr7 | exact rr8 | exact rr9 | exact rr10 | exact rr11 | exact rr12 | exact rr13 | exact rr14) (.cons (by first | exact rr0 | exact rr1 | exact rr2 | exact rr3 | exact rr4 | exact rr5 | exact rr6 | exact rr7 | exact rr8 | exact rr9 | exact rr10 | exact rr11 | exact rr12 | exact rr13 | exact rr14) (.cons (by first | exact rr0 | exact rr1 | exact rr2 | exact rr3 | exact rr4 | exact rr5 | exact rr6 | exact rr7 | exact rr8 | exact rr9 | exact rr10 | exact rr11 | exact rr12 | exact rr13 | exact rr14) .nil))))))) (by first | exact dd0 | exact dd1 | exact dd2 | exact dd3 | exact dd4 | exact dd5 | exact dd6 | exact dd7 | exact dd8 | exact dd9 | exact dd10 | exact dd11 | exact dd12 | exact dd13 | exact dd14))
          exact ⟨by omega, by omega⟩
        ·
          refine w_exit ?_
          refine thn_e ?_
          refine thn_e ?_
          refine blk_x ?_
          refine thn_n ?_
          refine w_seq ?_
          have hjn : j = (HuffP.ins ls syms).length := by omega
          have hbe : (HuffP.bits ls ((HuffP.ins ls syms).take j)).length = (HuffP.bits ls (HuffP.ins ls syms)).length := by rw [hjn, List.take_length]
          refine w_region ?_
          refine o_val (v_load V.s36 rfl (by first | exact mm0 | exact mm1 | exact mm2 | exact mm3 | exact mm4 | exact mm5 | exact mm6 | exact mm7 | exact mm8 | exact mm9 | exact mm10 | exact mm11 | exact mm12 | exact mm13 | exact mm14) rfl) rfl ?_
          refine o_call (c_Left bx out (HuffP.bits ls ((HuffP.ins ls syms).take j)).length [] 0 (by omega) (by omega)) V.b19  rfl (.cons (by first | exact rr0 | exact rr1 | exact rr2 | exact rr3 | exact rr4 | exact rr5 | exact rr6 | exact rr7 | exact rr8 | exact rr9 | exact rr10 | exact rr11 | exact rr12 | exact rr13 | exact rr14) .nil) rfl ?_
          rintro _ _ ⟨rfl, rfl⟩
          refine o_val (v_T (v_lss rfl rfl) (by omega)) rfl ?_
          refine o_val (v_assign rfl) rfl ?_
          refine o_nil ?_
          refine thn_n ?_
          refine w_ret ?_
          exact ret_ok (G := [_, _]) (res1 rfl) ⟨rfl, rfl⟩ (sub (.cons (by first | exact rr0 | exact rr1 | exact rr2 | exact rr3 | exact rr4 | exact rr5 | exact rr6 | exact rr7 | exact rr8 | exact rr9 | exact rr10 | exact rr11 | exact rr12 | exact rr13 | exact rr14) (.cons (by first | exact rr0 | exact rr1 | exact rr2 | exact rr3 | exact rr4 | exact rr5 | exact rr6 | exact rr7 | exact rr8 | exact rr9 | exact rr10 | exact rr11 | exact rr12 | exact rr13 | exact rr14) .nil)) (by first | exact dd0 | exact dd1 | exact dd2 | exact dd3 | exact dd4 | exact dd5 | exact dd6 | exact dd7 | exact dd8 | exact dd9 | exact dd10 | exact dd11 | exact dd12 | exact dd13 | exact dd14))


theorem backs (p : Option Addr) (cap : Nat) (ls : List Int) (q : Option Addr) (cap2 : Nat) (syms : List Int) (hS : ∀ x ∈ syms, 0 ≤ x ∧ x < 65536) : Ctr Try.prog 6 [.slice p ls.length cap, .slice q syms.length cap2] [RdR I3 p ls.length ls, RdR U16 q syms.length syms] (Ret fun v G => v = .bool true ∧ G = [RdR I3 p ls.length ls, RdR U16 q syms.length syms]) := by
  by_cases hE : HuffP.newE ls = 0
  · exact back_yes p cap ls q cap2 syms hS hE
  · exact back_no p cap ls q cap2 syms hS hE

end Go.Proofs.Ytmclopghpnndnaa

/-
  Steps of the proof: walks of functions that the statement reaches; printed by a program of ours.
-/
import Derived.Test.YtmclopghpnndnaaHuffN
namespace Go.Proofs.Ytmclopghpnndnaa
open Go.Sl 
set_option linter.unusedVariables false
set_option linter.unusedSimpArgs false

abbrev U16 : Ec Int := ecI 48 .u16
theorem u16_in {x : Int} (h : IntKind.u16.min ≤ x ∧ x ≤ IntKind.u16.max) : 0 ≤ x ∧ x < 65536 := by
  have h1 : IntKind.u16.min = 0 := by decide
  have h2 : IntKind.u16.max = 65535 := by decide
  omega

attribute [local irreducible] HuffP.newE HuffP.tk HuffP.ord HuffP.cntL HuffP.words HuffP.mostL HuffP.lkW HuffP.lkN HuffP.lkB HuffP.wb HuffP.ins HuffP.bits

set_option maxRecDepth 100000 in
theorem c_out (b : Nat) (B : List Int) (at_ : Nat) (out : List Int) (free : Int) (hl : out.length < 500000000) : Ctr Try.prog 22 [.pointer (some ⟨b, 0, none⟩)] [LW b B at_ out free] (Ret fun v G => ∃ q c, v = .slice q out.length c ∧ G = [Row U5 q out.length c out, LW b B at_ out free]) := by
  refine spec_of [(0, _)] Try.func22 rfl Try.ntmps22 rfl rfl ?_
  intro w0 F
  refine w_opn (fun h hh => hh) ?_
  rintro ⟨p1, c1, p2, c2⟩ _
  dsimp only
  refine w_seq ?_
  refine w_region ?_
  refine o_val (v_assign rfl) rfl ?_
  refine o_nil ?_
  refine thn_n ?_
  refine w_seq ?_
  refine w_seq ?_
  refine w_region ?_
  refine o_val (v_move rfl) rfl ?_
  refine o_val (v_to (v := .bool false) (v_eqnil Try.underlying36 rfl rfl) rfl) rfl ?_
  refine o_nil ?_
  refine thn_n ?_
  refine w_condF rfl ?_
  refine w_skip ?_
  refine thn_n ?_
  refine w_seq ?_
  refine w_region ?_
  refine o_val (v_move rfl) rfl ?_
  refine o_val (v_nil rfl) rfl ?_
  refine o_val (v_fieldAddr V.f70_0 rfl) rfl ?_
  refine o_val (v_fieldAddr V.f68_1 rfl) rfl ?_
  refine o_val (v_load V.s35 rfl (by first | exact mm0 | exact mm1 | exact mm2 | exact mm3 | exact mm4 | exact mm5 | exact mm6 | exact mm7 | exact mm8 | exact mm9 | exact mm10 | exact mm11 | exact mm12 | exact mm13 | exact mm14) rfl) rfl ?_
  refine o_call (c_clone p2 c2 out (Row U5 p2 out.length c2 out) (fun _ _ h => h.rd) hl) V.b32  rfl (.cons (by first | exact rr0 | exact rr1 | exact rr2 | exact rr3 | exact rr4 | exact rr5 | exact rr6 | exact rr7 | exact rr8 | exact rr9 | exact rr10 | exact rr11 | exact rr12 | exact rr13 | exact rr14) .nil) rfl ?_
  rintro _ _ ⟨q, c, rfl, rfl⟩
  refine o_val (v_assign rfl) rfl ?_
  refine o_nil ?_
  refine thn_n ?_
  refine w_ret ?_
  exact ret_ok (G := [Row U5 q out.length c out, LW b B at_ out free]) (res1 rfl) ⟨q, c, rfl, rfl⟩ ((fold' (.cons (by first | exact rr0 | exact rr1 | exact rr2 | exact rr3 | exact rr4 | exact rr5 | exact rr6 | exact rr7 | exact rr8 | exact rr9 | exact rr10 | exact rr11 | exact rr12 | exact rr13 | exact rr14) (.cons (by first | exact rr0 | exact rr1 | exact rr2 | exact rr3 | exact rr4 | exact rr5 | exact rr6 | exact rr7 | exact rr8 | exact rr9 | exact rr10 | exact rr11 | exact rr12 | exact rr13 | exact rr14) (.cons (by first | exact rr0 | exact rr1 | exact rr2 | exact rr3 | exact rr4 | exact rr5 | exact rr6 | exact rr7 | exact rr8 | exact rr9 | exact rr10 | exact rr11 | exact rr12 | exact rr13 | exact rr14) .nil))) (by first | exact dd0 | exact dd1 | exact dd2 | exact dd3 | exact dd4 | exact dd5 | exact dd6 | exact dd7 | exact dd8 | exact dd9 | exact dd10 | exact dd11 | exact dd12 | exact dd13 | exact dd14) (fun w0 h (hh : sats w0 [Cel b 70 [.slice p1 B.length c1, .slice p2 out.length c2, .int .i64 (at_ : Int), .int .i64 free], Row U5 p1 B.length c1 B, Row U5 p2 out.length c2 out] h) => lw_close hh)).trans (sub (.cons (by first | exact rr0 | exact rr1 | exact rr2 | exact rr3 | exact rr4 | exact rr5 | exact rr6 | exact rr7 | exact rr8 | exact rr9 | exact rr10 | exact rr11 | exact rr12 | exact rr13 | exact rr14) (.cons (by first | exact rr0 | exact rr1 | exact rr2 | exact rr3 | exact rr4 | exact rr5 | exact rr6 | exact rr7 | exact rr8 | exact rr9 | exact rr10 | exact rr11 | exact rr12 | exact rr13 | exact rr14) .nil)) (by first | exact dd0 | exact dd1 | exact dd2 | exact dd3 | exact dd4 | exact dd5 | exact dd6 | exact dd7 | exact dd8 | exact dd9 | exact dd10 | exact dd11 | exact dd12 | exact dd13 | exact dd14)))


theorem c_newW : Ctr Try.prog 14 [.slice none 0 0] [] (Ret fun v G => ∃ b, v = .pointer (some ⟨b, 0, none⟩) ∧ G = [WB b []]) := by
  intro w0 F w hi
  refine (c_newLow none 0 [] (Pr True) (fun _ _ _ => ⟨rfl, rfl, .inl rfl⟩) (by decide) w0 F w (hi.add_pr trivial)).mono ?_
  rintro e w' ⟨G, h1, v, rfl, b, rfl, rfl⟩
  refine ⟨[WB b []], Inv.imp (A := LW b [] 0 [] 0) (B := WB b []) ?_ ((h1.perm (.swap _ _ _)).tail), _, rfl, b, rfl, rfl⟩
  intro h hh
  exact ⟨([], 0), ⟨BitP.pk_nil, by decide⟩, h, fun _ => none, fun _ => .inr rfl, Hp.le_refl _, (fun _ _ e => by cases e), hh, trivial⟩
theorem c_outW (b : Nat) (bs : List Int) (hl : bs.length < 500000000) : Ctr Try.prog 22 [.pointer (some ⟨b, 0, none⟩)] [WB b bs] (Ret fun v G => ∃ out fr q c, BitP.Pk bs out fr ∧ fr < 8 ∧ v = .slice q out.length c ∧ G = [Row U5 q out.length c out]) := by
  intro w0 F w hi
  obtain ⟨⟨out, fr⟩, ⟨hpk, hf8⟩, hi2⟩ := hi.opn (fun h hh => hh)
  dsimp only at hpk hi2 hf8
  have hlen := hpk.len
  refine (c_out b [] 0 out (fr : Int) (by omega) w0 F w hi2).mono ?_
  rintro e w' ⟨G, h1, v, rfl, q, c, rfl, rfl⟩
  exact ⟨[Row U5 q out.length c out], (h1.perm (.swap _ _ _)).tail, _, rfl, out, fr, q, c, hpk, hf8, rfl, rfl⟩


set_option maxRecDepth 100000 in
theorem h_put_no (b : Nat) (ls : List Int) (b2 : Nat) (bs : List Int) (x : Int) (hb : HuffP.lkB ls x = false) : Ctr Try.prog 21 [.pointer (some ⟨b, 0, none⟩), .pointer (some ⟨b2, 0, none⟩), .int .i64 x] [HC b ls, WB b2 bs] (Ret fun v G => v = .bool false ∧ G = [HC b ls, WB b2 bs]) := by
  refine spec_of [(0, _), (1, _), (2, _)] Try.func21 rfl Try.ntmps21 rfl rfl ?_
  intro w0 F
  refine w_seq ?_
  refine w_region ?_
  refine o_val (v_assign rfl) rfl ?_
  refine o_nil ?_
  refine thn_n ?_
  refine w_seq ?_
  refine w_region ?_
  refine o_val (v_move rfl) rfl ?_
  refine o_val (v_move rfl) rfl ?_
  refine o_call (h_word b ls x) V.b12  rfl (.cons (by first | exact rr0 | exact rr1 | exact rr2 | exact rr3 | exact rr4 | exact rr5 | exact rr6 | exact rr7 | exact rr8 | exact rr9 | exact rr10 | exact rr11 | exact rr12 | exact rr13 | exact rr14) .nil) rfl ?_
  rintro _ _ ⟨rfl, rfl⟩
  rw [hb]
  refine o_val (v_move rfl) rfl ?_
  refine o_val (v_extract rfl rfl) rfl ?_
  refine o_val (v_extract rfl rfl) rfl ?_
  refine o_val (v_extract rfl rfl) rfl ?_
  refine o_val (v_assign rfl) rfl ?_
  refine o_val (v_assign rfl) rfl ?_
  refine o_val (v_assign rfl) rfl ?_
  refine o_nil ?_
  refine thn_n ?_
  refine w_seq ?_
  refine w_seq ?_
  refine w_region ?_
  refine o_val (v_move rfl) rfl ?_
  refine o_val (v_to (v := .bool true) (v_not rfl) rfl) rfl ?_
  refine o_val (v_move rfl) rfl ?_
  refine o_pass rfl rfl rfl ?_
  refine o_pass rfl rfl rfl ?_
  refine o_val (v_pickT rfl rfl) rfl ?_
  refine o_nil ?_
  refine thn_n ?_
  refine w_condT rfl ?_
  refine w_seq ?_
  refine w_region ?_
  refine o_val (v_assign rfl) rfl ?_
  refine o_nil ?_
  refine thn_n ?_
  refine w_ret ?_
  refine (thn_r ?_)
  exact ret_ok (G := [_, _]) (res1 rfl) ⟨rfl, rfl⟩ (sub (.cons (by first | exact rr0 | exact rr1 | exact rr2 | exact rr3 | exact rr4 | exact rr5 | exact rr6 | exact rr7 | exact rr8 | exact rr9 | exact rr10 | exact rr11 | exact rr12 | exact rr13 | exact rr14) (.cons (by first | exact rr0 | exact rr1 | exact rr2 | exact rr3 | exact rr4 | exact rr5 | exact rr6 | exact rr7 | exact rr8 | exact rr9 | exact rr10 | exact rr11 | exact rr12 | exact rr13 | exact rr14) .nil)) (by first | exact dd0 | exact dd1 | exact dd2 | exact dd3 | exact dd4 | exact dd5 | exact dd6 | exact dd7 | exact dd8 | exact dd9 | exact dd10 | exact dd11 | exact dd12 | exact dd13 | exact dd14))

set_option maxRecDepth 100000 in
theorem h_put_yes (b : Nat) (ls : List Int) (b2 : Nat) (bs : List Int) (x : Int) (hE : HuffP.newE ls = 0) (hb : HuffP.lkB ls x = true) (hl : bs.length < 300000000) : Ctr Try.prog 21 [.pointer (some ⟨b, 0, none⟩), .pointer (some ⟨b2, 0, none⟩), .int .i64 x] [HC b ls, WB b2 bs] (Ret fun v G => v = .bool true ∧ G = [HC b ls, WB b2 (bs ++ HuffP.wb ls x)]) := by
  refine spec_of [(0, _), (1, _), (2, _)] Try.func21 rfl Try.ntmps21 rfl rfl ?_
  intro w0 F
  obtain ⟨hV, hW⟩ := HuffP.newE_vl hE
  have hws := HuffP.word_small hV hW hb
  refine w_seq ?_
  refine w_region ?_
  refine o_val (v_assign rfl) rfl ?_
  refine o_nil ?_
  refine thn_n ?_
  refine w_seq ?_
  refine w_region ?_
  refine o_val (v_move rfl) rfl ?_
  refine o_val (v_move rfl) rfl ?_
  refine o_call (h_word b ls x) V.b12  rfl (.cons (by first | exact rr0 | exact rr1 | exact rr2 | exact rr3 | exact rr4 | exact rr5 | exact rr6 | exact rr7 | exact rr8 | exact rr9 | exact rr10 | exact rr11 | exact rr12 | exact rr13 | exact rr14) .nil) rfl ?_
  rintro _ _ ⟨rfl, rfl⟩
  rw [hb]
  refine o_val (v_move rfl) rfl ?_
  refine o_val (v_extract rfl rfl) rfl ?_
  refine o_val (v_extract rfl rfl) rfl ?_
  refine o_val (v_extract rfl rfl) rfl ?_
  refine o_val (v_assign rfl) rfl ?_
  refine o_val (v_assign rfl) rfl ?_
  refine o_val (v_assign rfl) rfl ?_
  refine o_nil ?_
  refine thn_n ?_
  refine w_seq ?_
  refine w_seq ?_
  refine w_region ?_
  refine o_val (v_move rfl) rfl ?_
  refine o_val (v_to (v := .bool false) (v_not rfl) rfl) rfl ?_
  refine o_val (v_move rfl) rfl ?_
  refine o_want rfl ?_
  refine o_val (v_move rfl) rfl ?_
  refine o_want rfl ?_
  refine o_val (v_to (v := .bool false) (v_eqnil Try.underlying36 rfl rfl) rfl) rfl ?_
  refine o_val (v_pickF rfl rfl) rfl ?_
  refine o_nil ?_
  refine thn_n ?_
  refine w_condF rfl ?_
  refine w_skip ?_
  refine thn_n ?_
  refine w_seq ?_
  refine w_seq ?_
  refine w_region ?_
  refine o_val (v_move rfl) rfl ?_
  refine o_val (v_sub rfl rfl (wrapI (by omega) (by omega))) rfl ?_
  refine o_val (v_assign rfl) rfl ?_
  refine o_nil ?_
  refine thn_n ?_
  refine w_block ?_
  rw [show HuffP.lkN ls x - 1 = HuffP.lkN ls x - 1 - ((0 : Nat) : Int) from by omega]
  refine w_loop1 (fun (k : Nat) => [(1, .pointer (some ⟨b2, 0, none⟩)), (7, .int .i64 (HuffP.lkW ls x)), (10, .int .i64 (HuffP.lkN ls x - 1 - (k : Int)))]) (fun (k : Nat) => HC b ls :: WB b2 (bs ++ (HuffP.wb ls x).take k) :: F) (fun (k : Nat) => (k : Int) ≤ HuffP.lkN ls x) (fun (k : Nat) => (HuffP.lkN ls x).toNat - k) (i1 (0) ?_ (.cons rfl (.cons rfl (.cons rfl (.nil _)))) (by show Sub _ (HC b ls :: WB b2 (bs ++ (HuffP.wb ls x).take 0) :: F); rw [List.take_zero, List.append_nil]; exact (sub (.cons (by first | exact rr0 | exact rr1 | exact rr2 | exact rr3 | exact rr4 | exact rr5 | exact rr6 | exact rr7 | exact rr8 | exact rr9 | exact rr10 | exact rr11 | exact rr12 | exact rr13 | exact rr14) (.cons (by first | exact rr0 | exact rr1 | exact rr2 | exact rr3 | exact rr4 | exact rr5 | exact rr6 | exact rr7 | exact rr8 | exact rr9 | exact rr10 | exact rr11 | exact rr12 | exact rr13 | exact rr14) .nil)) (by first | exact dd0 | exact dd1 | exact dd2 | exact dd3 | exact dd4 | exact dd5 | exact dd6 | exact dd7 | exact dd8 | exact dd9 | exact dd10 | exact dd11 | exact dd12 | exact dd13 | exact dd14)))) ?_
  ·
    exact (by omega)
  intro k
  rintro hk
  refine w_seq ?_
  refine w_seq ?_
  refine w_region ?_
  refine o_val (v_move rfl) rfl ?_
  refine o_val (v_geq rfl rfl) rfl ?_
  refine o_nil ?_
  refine thn_n ?_
  first | refine w_condD rfl (fun h27 => ?_) (fun h27 => ?_) | refine w_cond rfl (fun h27 => ?_) (fun h27 => ?_)
  ·
    refine w_skip ?_
    refine thn_n ?_
    refine w_seq ?_
    refine w_block ?_
    have hdn := BitP.div_nn hws.1 ((HuffP.lkN ls x).toNat - 1 - k)
    refine w_region ?_
    refine o_val (v_move rfl) rfl ?_
    refine o_val (v_move rfl) rfl ?_
    refine o_val (v_move rfl) rfl ?_
    refine o_val (v_shr (r := HuffP.lkW ls x / 2 ^ ((HuffP.lkN ls x).toNat - 1 - k)) rfl rfl (by omega) (BitP.shrI (by omega) (by omega))) rfl ?_
    refine o_call (c_put b2 (bs ++ (HuffP.wb ls x).take k) (HuffP.lkW ls x / 2 ^ ((HuffP.lkN ls x).toNat - 1 - k)) 1 (by omega) (by omega) (by rw [List.length_append, List.length_take]; omega)) V.b37  rfl (.cons (by first | exact rr0 | exact rr1 | exact rr2 | exact rr3 | exact rr4 | exact rr5 | exact rr6 | exact rr7 | exact rr8 | exact rr9 | exact rr10 | exact rr11 | exact rr12 | exact rr13 | exact rr14) .nil) rfl ?_
    rintro _ _ ⟨rfl, rfl⟩
    refine o_nil ?_
    refine blk_n ?_
    refine thn_n ?_
    refine w_region ?_
    refine o_val (v_move rfl) rfl ?_
    refine o_val (v_sub rfl rfl (wrapI (by omega) (by omega))) rfl ?_
    refine o_val (v_assign rfl) rfl ?_
    refine o_nil ?_
    rw [BitP.lowB_one, List.append_assoc, HuffP.wb_take (by omega), show HuffP.lkN ls x - 1 - (k : Int) - 1 = HuffP.lkN ls x - 1 - ((k + 1 : Nat) : Int) from by omega]
    refine j1 (k + 1) ?_ (.cons rfl (.cons rfl (.cons rfl (.nil _)))) (sub (.cons (by first | exact rr0 | exact rr1 | exact rr2 | exact rr3 | exact rr4 | exact rr5 | exact rr6 | exact rr7 | exact rr8 | exact rr9 | exact rr10 | exact rr11 | exact rr12 | exact rr13 | exact rr14) (.cons (by first | exact rr0 | exact rr1 | exact rr2 | exact rr3 | exact rr4 | exact rr5 | exact rr6 | exact rr7 | exact rr8 | exact rr9 | exact rr10 | exact rr11 | exact rr12 | exact rr13 | exact rr14) .nil)) (by first | exact dd0 | exact dd1 | exact dd2 | exact dd3 | exact dd4 | exact dd5 | exact dd6 | exact dd7 | exact dd8 | exact dd9 | exact dd10 | exact dd11 | exact dd12 | exact dd13 | exact dd14))
    exact ⟨by omega, by omega⟩
  ·
    refine w_exit ?_
    refine thn_e ?_
    refine thn_e ?_
    refine blk_x ?_
    refine thn_n ?_
    refine w_seq ?_
    refine w_region ?_
    refine o_val (v_assign rfl) rfl ?_
    refine o_nil ?_
    refine thn_n ?_
    refine w_ret ?_
    rw [List.take_of_length_le (by rw [HuffP.wb_len]; omega)]
    exact ret_ok (G := [HC b ls, WB b2 (bs ++ HuffP.wb ls x)]) (res1 rfl) ⟨rfl, rfl⟩ (sub (.cons (by first | exact rr0 | exact rr1 | exact rr2 | exact rr3 | exact rr4 | exact rr5 | exact rr6 | exact rr7 | exact rr8 | exact rr9 | exact rr10 | exact rr11 | exact rr12 | exact rr13 | exact rr14) (.cons (by first | exact rr0 | exact rr1 | exact rr2 | exact rr3 | exact rr4 | exact rr5 | exact rr6 | exact rr7 | exact rr8 | exact rr9 | exact rr10 | exact rr11 | exact rr12 | exact rr13 | exact rr14) .nil)) (by first | exact dd0 | exact dd1 | exact dd2 | exact dd3 | exact dd4 | exact dd5 | exact dd6 | exact dd7 | exact dd8 | exact dd9 | exact dd10 | exact dd11 | exact dd12 | exact dd13 | exact dd14))
end Go.Proofs.Ytmclopghpnndnaa

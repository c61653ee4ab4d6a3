/-
  Steps of the proof: walks of functions that the statement reaches; printed by a program of ours.
-/
import Derived.Test.YtmclopghpnndnaaHuffJ
import Derived.Test.YtmclopghpnndnaaM26
namespace Go.Proofs.Ytmclopghpnndnaa
open Go.Sl 
set_option linter.unusedVariables false
set_option linter.unusedSimpArgs false

attribute [local irreducible] HuffP.ord HuffP.wordsK HuffP.posn HuffP.cntL HuffP.mostL HuffP.words HuffP.wordOf HuffP.lenOf HuffP.newE HuffP.wholeB HuffP.wd HuffP.lkW HuffP.lkN HuffP.lkB HuffP.cls HuffP.off HuffP.tk

set_option maxHeartbeats 2000000 in
set_option maxRecDepth 100000 in
theorem h_take (b : Nat) (ls : List Int) (b2 : Nat) (B : List Int) (at_ : Nat) (out : List Int) (free : Int) (hE : HuffP.newE ls = 0) (hl : B.length < 500000000) (hB : BitP.Byt B) (ha : at_ ≤ 8 * B.length) : Ctr Try.prog 17 [.pointer (some ⟨b, 0, none⟩), .pointer (some ⟨b2, 0, none⟩)] [HC b ls, LW b2 B at_ out free] (RetPan (fun v G => ∃ n s, HuffP.tk ls B at_ = .hit n s ∧ v = .int .i64 s ∧ G = [HC b ls, LW b2 B (at_ + n) out free]) (fun ch G => (∃ n, HuffP.tk ls B at_ = .short n ∧ ch = pan1 89 (.agg #[]) ∧ G = [HC b ls, LW b2 B (at_ + n) out free]) ∨ (∃ n, HuffP.tk ls B at_ = .none_ n ∧ ch = pan1 73 (.agg #[]) ∧ G = [HC b ls, LW b2 B (at_ + n) out free]))) := by
  refine spec_of [(0, _), (1, _)] Try.func17 rfl Try.ntmps17 rfl rfl ?_
  intro w0 F
  have hV := (HuffP.newE_vl hE).1
  have hW := (HuffP.newE_vl hE).2
  have hcl := HuffP.cntL_len ls
  have hCb := HuffP.cntL_bound hV.1
  have hm15 := HuffP.mst_le hV
  have hme := HuffP.mst_eq ls
  refine w_opn (fun h hh => hh) ?_
  rintro ⟨p1, c1, p2, c2⟩ _
  dsimp only
  rw [hme]
  refine w_seq ?_
  refine w_region ?_
  refine o_val (v_assign rfl) rfl ?_
  refine o_nil ?_
  refine thn_n ?_
  refine w_seq ?_
  refine w_region ?_
  refine o_val (v_assign rfl) rfl ?_
  refine o_val (v_assign rfl) rfl ?_
  refine o_val (v_assign rfl) rfl ?_
  refine o_nil ?_
  refine thn_n ?_
  refine w_seq ?_
  refine w_seq ?_
  refine w_region ?_
  refine o_val (v_assign rfl) rfl ?_
  refine o_nil ?_
  refine thn_n ?_
  refine w_block ?_
  rw [show ((7 : Nat), Value.int .i64 0) = (7, .int .i64 (HuffP.off ls (0 + 1) : Int)) from by unfold HuffP.off; rfl]
  refine w_loop1 (fun (m : Nat) => [(0, .pointer (some ⟨b, 0, none⟩)), (1, .pointer (some ⟨b2, 0, none⟩)), (5, .int .i64 (BitP.acc B at_ m)), (6, .int .i64 (HuffP.base ls m + HuffP.cnt ls m)), (7, .int .i64 (HuffP.off ls (m + 1) : Int)), (8, .int .i64 ((m : Int) + 1))]) (fun (m : Nat) => Cel b 58 (CA [.slice p1 ls.length c1] .i64 (HuffP.cntL ls) [.slice p2 (HuffP.ord ls).length c2, .int .i64 (HuffP.mst ls : Int)]) :: Row W63 p1 ls.length c1 (HuffP.words ls) :: Row I3 p2 (HuffP.ord ls).length c2 (HuffP.ord ls) :: LW b2 B (at_ + m) out free :: F) (fun (m : Nat) => HuffP.Tk ls B at_ m) (fun (m : Nat) => HuffP.mst ls - m) (i1 (0) ?_ (.cons rfl (.cons rfl (.cons rfl (.cons rfl (.cons rfl (.cons rfl (.nil _))))))) (sub (.cons (by repeat first | exact .head | apply Rem.tail) (.cons (by repeat first | exact .head | apply Rem.tail) (.cons (by repeat first | exact .head | apply Rem.tail) (.cons (by repeat first | exact .head | apply Rem.tail) .nil)))) (by repeat first | exact .refl | apply Drop.skip))) ?_
  ·
    exact HuffP.tk_start ha
  intro m
  rintro ht
  have htl := ht.le
  refine w_seq ?_
  refine w_seq ?_
  refine w_region ?_
  refine o_val (v_move rfl) rfl ?_
  refine o_val (v_move rfl) rfl ?_
  refine o_val (v_nil rfl) rfl ?_
  refine o_val (v_fieldAddr V.f58_3 rfl) rfl ?_
  refine o_val (a_loadP (n := 16) 1 V.s3 rfl (by repeat first | exact .head _ | apply List.Mem.tail) (by first | omega | (simp only [List.length_set]; omega)) rfl rfl) rfl ?_
  refine o_val (v_leq rfl rfl) rfl ?_
  refine o_nil ?_
  refine thn_n ?_
  first | refine w_condD rfl (fun h14 => ?_) (fun h14 => ?_) | refine w_cond rfl (fun h14 => ?_) (fun h14 => ?_)
  ·
    have hcn := HuffP.cntL_i (ls := ls) (m := m) (by omega)
    have hbf := HuffP.full_le hW (n := m + 1) (by omega)
    have hbn := HuffP.base_nn ls (m + 1)
    have hc1 := HuffP.cnt_nonneg ls (m + 1)
    have hof := HuffP.off_16 hV (m := m) (by omega)
    have hac := BitP.acc_bound B at_ (m + 1)
    have hac0 := BitP.acc_bound B at_ m
    have hp15 := HuffP.pow_15 (show m + 1 ≤ 15 by omega)
    have hp14 := HuffP.pow_15 (show m ≤ 15 by omega)
    have hb := BitP.bitL_01 B (at_ + m)
    have hnn := ht.nn
    refine w_skip ?_
    refine thn_n ?_
    refine w_seq ?_
    refine w_block ?_
    rcases (Nat.lt_or_ge (at_ + m) (8 * B.length)) with hx | hx
    ·
      refine w_seq ?_
      refine w_region ?_
      refine o_val (v_move rfl) rfl ?_
      refine o_val (v_shl (r := 2 * BitP.acc B at_ m) rfl rfl (by decide) (BitP.shl1 hac0.1 (by omega))) rfl ?_
      refine o_val (v_move rfl) rfl ?_
      refine o_call (c_take b2 B (at_ + m) out free 1 hl hB (by omega) (by omega)) V.b34  rfl (.cons (by repeat first | exact .head | apply Rem.tail) .nil) rfl ?_
      rintro _ _ ⟨rfl, rfl⟩
      rw [BitP.numL_one]
      refine o_val (v_or (r := BitP.acc B at_ (m + 1)) rfl rfl (BitP.or_low hac0.1 (by omega) hb)) rfl ?_
      refine o_val (v_assign rfl) rfl ?_
      refine o_nil ?_
      refine thn_n ?_
      refine w_seq ?_
      refine w_region ?_
      refine o_val (v_move rfl) rfl ?_
      refine o_val (v_shl (r := HuffP.base ls (m + 1)) rfl rfl (by decide) (shl_base hW (by omega))) rfl ?_
      refine o_val (v_assign rfl) rfl ?_
      refine o_nil ?_
      refine thn_n ?_
      refine w_seq ?_
      refine w_seq ?_
      refine w_region ?_
      refine o_val (v_move rfl) rfl ?_
      refine o_val (v_move rfl) rfl ?_
      refine o_val (v_sub rfl rfl (wrapI (by omega) (by omega))) rfl ?_
      refine o_val (v_move rfl) rfl ?_
      refine o_val (v_move rfl) rfl ?_
      refine o_val (v_nil rfl) rfl ?_
      refine o_val (v_fieldAddr V.f58_1 rfl) rfl ?_
      refine o_val (v_indexA (m + 1) rfl V.ar56 rfl rfl (by omega)) rfl ?_
      refine o_val (a_load ((m : Int) + 1) V.s3 rfl (by repeat first | exact .head _ | apply List.Mem.tail) (by first | (simp only [List.length_cons, List.length_nil]; omega) | omega) (by omega) (by first | omega | (simp only [List.length_set]; omega))) rfl ?_
      refine o_val (v_lss rfl rfl) rfl ?_
      refine o_nil ?_
      refine thn_n ?_
      first | refine w_condD rfl (fun h33 => ?_) (fun h33 => ?_) | refine w_cond rfl (fun h33 => ?_) (fun h33 => ?_)
      ·
        refine w_seq ?_
        have hlt : BitP.acc B at_ (m + 1) - HuffP.base ls (m + 1) < HuffP.cnt ls (m + 1) := by rw [← hcn]; exact h33
        have hat := HuffP.hit_at (by omega) hnn hlt
        have hol : (HuffP.ord ls).length ≤ 320 := by rw [HuffP.ord_len]; exact HuffP.off_16 hV (m := 15) (by omega)
        refine w_region ?_
        refine o_val (v_move rfl) rfl ?_
        refine o_val (v_nil rfl) rfl ?_
        refine o_val (v_fieldAddr V.f58_2 rfl) rfl ?_
        refine o_val (a_loadP (n := 16) 0 V.s22 rfl (by repeat first | exact .head _ | apply List.Mem.tail) (by first | omega | (simp only [List.length_set]; omega)) rfl rfl) rfl ?_
        refine o_val (v_move rfl) rfl ?_
        refine o_val (v_move rfl) rfl ?_
        refine o_val (v_add rfl rfl (wrapI (by omega) (by omega))) rfl ?_
        refine o_val (v_move rfl) rfl ?_
        refine o_val (v_sub rfl rfl (wrapI (by omega) (by omega))) rfl ?_
        refine o_val (r_index (c := (I3)) V.sl22 rfl rfl (own (by repeat first | exact .head _ | apply List.Mem.tail)) (by omega) (by omega)) rfl ?_
        refine o_val (r_load (c := (I3)) V.s3 rfl (own (by repeat first | exact .head _ | apply List.Mem.tail)) (by omega) (by omega) rfl rfl) rfl ?_
        refine o_val (v_assign rfl) rfl ?_
        refine o_nil ?_
        refine thn_n ?_
        refine w_ret ?_
        refine (thn_r (blk_r (thn_r (thn_r (blk_r (thn_r ?_))))))
        rw [← hme]
        exact rp_ret (G := [HC b ls, LW b2 B (at_ + (m + 1)) out free]) (res1 rfl) ⟨m + 1, _, ht.hit (by omega) hx hlt, by rw [← gE (c := I3) (e := (HuffP.off ls (m + 1) : Int) + BitP.acc B at_ (m + 1) - HuffP.base ls (m + 1)) _ (by omega)], rfl⟩ ((fold' (.cons (by repeat first | exact .head | apply Rem.tail) (.cons (by repeat first | exact .head | apply Rem.tail) (.cons (by repeat first | exact .head | apply Rem.tail) .nil))) (by repeat first | exact .refl | apply Drop.skip) (fun w0 h hh => hc_close rfl hh)).trans (sub (.cons (by repeat first | exact .head | apply Rem.tail) (.cons (by repeat first | exact .head | apply Rem.tail) .nil)) (by repeat first | exact .refl | apply Drop.skip)))
      ·
        refine w_skip ?_
        refine thn_n ?_
        refine w_seq ?_
        refine w_region ?_
        refine o_val (v_move rfl) rfl ?_
        refine o_val (v_move rfl) rfl ?_
        refine o_val (v_move rfl) rfl ?_
        refine o_val (v_nil rfl) rfl ?_
        refine o_val (v_fieldAddr V.f58_1 rfl) rfl ?_
        refine o_val (v_indexA (m + 1) rfl V.ar56 rfl rfl (by omega)) rfl ?_
        refine o_val (a_load ((m : Int) + 1) V.s3 rfl (by repeat first | exact .head _ | apply List.Mem.tail) (by first | (simp only [List.length_cons, List.length_nil]; omega) | omega) (by omega) (by first | omega | (simp only [List.length_set]; omega))) rfl ?_
        refine o_val (v_add rfl rfl (wrapI (by omega) (by omega))) rfl ?_
        refine o_val (v_assign rfl) rfl ?_
        refine o_nil ?_
        refine thn_n ?_
        refine w_region ?_
        refine o_val (v_move rfl) rfl ?_
        refine o_val (v_move rfl) rfl ?_
        refine o_val (v_move rfl) rfl ?_
        refine o_val (v_nil rfl) rfl ?_
        refine o_val (v_fieldAddr V.f58_1 rfl) rfl ?_
        refine o_val (v_indexA (m + 1) rfl V.ar56 rfl rfl (by omega)) rfl ?_
        refine o_val (a_load ((m : Int) + 1) V.s3 rfl (by repeat first | exact .head _ | apply List.Mem.tail) (by first | (simp only [List.length_cons, List.length_nil]; omega) | omega) (by omega) (by first | omega | (simp only [List.length_set]; omega))) rfl ?_
        refine o_val (v_add rfl rfl (wrapI (by omega) (by omega))) rfl ?_
        refine o_val (v_assign rfl) rfl ?_
        refine o_nil ?_
        refine blk_n ?_
        refine thn_n ?_
        refine w_region ?_
        refine o_val (v_move rfl) rfl ?_
        refine o_val (v_add rfl rfl (wrapI (by omega) (by omega))) rfl ?_
        refine o_val (v_assign rfl) rfl ?_
        refine o_nil ?_
        rw [hcn, ← HuffP.off_cnt ls (m + 1), show (m : Int) + 1 = ((m + 1 : Nat) : Int) from by omega]
        refine j1 (m + 1) ?_ (.cons rfl (.cons rfl (.cons rfl (.cons rfl (.cons rfl (.cons rfl (.nil _))))))) (sub (.cons (by repeat first | exact .head | apply Rem.tail) (.cons (by repeat first | exact .head | apply Rem.tail) (.cons (by repeat first | exact .head | apply Rem.tail) (.cons (by repeat first | exact .head | apply Rem.tail) .nil)))) (by repeat first | exact .refl | apply Drop.skip))
        exact ⟨ht.miss (by omega) hx (by rw [← hcn]; assumption), by omega⟩
    ·
      refine w_seq ?_
      refine w_region ?_
      refine o_val (v_move rfl) rfl ?_
      refine o_val (v_shl (r := 2 * BitP.acc B at_ m) rfl rfl (by decide) (BitP.shl1 hac0.1 (by omega))) rfl ?_
      refine o_val (v_move rfl) rfl ?_
      refine o_callE (c_takeE b2 B (at_ + m) out free 1 hl hB (by omega) ht.room (by omega)) V.b34 rfl (.cons (by repeat first | exact .head | apply Rem.tail) .nil) ?_
      rintro _ _ ⟨rfl, rfl⟩
      refine (thn_p (blk_p (thn_p (thn_p (blk_p (thn_p ?_))))))
      rw [← hme]
      exact rp_pan (G := [HC b ls, LW b2 B (at_ + m) out free]) (.inl ⟨m, ht.short (by omega) (by omega), rfl, rfl⟩) ((fold' (.cons (by repeat first | exact .head | apply Rem.tail) (.cons (by repeat first | exact .head | apply Rem.tail) (.cons (by repeat first | exact .head | apply Rem.tail) .nil))) (by repeat first | exact .refl | apply Drop.skip) (fun w0 h hh => hc_close rfl hh)).trans (sub (.cons (by repeat first | exact .head | apply Rem.tail) (.cons (by repeat first | exact .head | apply Rem.tail) .nil)) (by repeat first | exact .refl | apply Drop.skip)))
  ·
    refine w_exit ?_
    refine thn_e ?_
    refine thn_e ?_
    refine blk_x ?_
    refine thn_n ?_
    refine w_region ?_
    refine o_val (v_build V.pl73 V.z73 rfl (cs := []) rfl) rfl ?_
    refine o_val (v_iface V.c73 rfl) rfl ?_
    refine o_panic rfl ?_
    skip
    rw [← hme]
    exact rp_pan (G := [HC b ls, LW b2 B (at_ + m) out free]) (.inr ⟨m, ht.none (by omega), rfl, rfl⟩) ((fold' (.cons (by repeat first | exact .head | apply Rem.tail) (.cons (by repeat first | exact .head | apply Rem.tail) (.cons (by repeat first | exact .head | apply Rem.tail) .nil))) (by repeat first | exact .refl | apply Drop.skip) (fun w0 h hh => hc_close rfl hh)).trans (sub (.cons (by repeat first | exact .head | apply Rem.tail) (.cons (by repeat first | exact .head | apply Rem.tail) .nil)) (by repeat first | exact .refl | apply Drop.skip)))

end Go.Proofs.Ytmclopghpnndnaa

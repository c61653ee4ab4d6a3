/- Steps of the proof: the walks of the functions that the statement reaches; printed by a program of ours. -/
import Derived.Test.YtoplcgkafaoafaaM34
import Derived.Test.YtoplcgkafaoafaaM33
import Derived.Test.YtoplcgkafaoafaaM27
/-
 Steps of the proof: walks of functions that the statement reaches; printed by a program of ours.
-/
namespace Go.Proofs.Ytoplcgkafaoafaa
open Go.Sl 
set_option linter.unusedVariables false
set_option linter.unusedSimpArgs false

attribute [local irreducible] HuffP.ord HuffP.wordsK HuffP.posn HuffP.cntL HuffP.mostL HuffP.words HuffP.wordOf HuffP.lenOf HuffP.newE HuffP.wholeB HuffP.wd HuffP.lkW HuffP.lkN HuffP.lkB HuffP.cls HuffP.off HuffP.tk

set_option maxHeartbeats 2000000 in
set_option maxRecDepth 100000 in
theorem h_take (b : Nat) (ls : List Int) (b2 : Nat) (B : List Int) (at_ : Nat) (out : List Int) (free : Int) (hE : HuffP.newE ls = 0) (hl : B.length < 500000000) (hB : BitP.Byt B) (ha : at_ ≤ 8 * B.length) : Ctr Try.prog 51 [.pointer (some ⟨b, 0, none⟩), .pointer (some ⟨b2, 0, none⟩)] [HC b ls, LW b2 B at_ out free] (RetPan (fun v G => ∃ n s, HuffP.tk ls B at_ = .hit n s ∧ v = .int .i64 s ∧ G = [HC b ls, LW b2 B (at_ + n) out free]) (fun ch G => (∃ n, HuffP.tk ls B at_ = .short n ∧ ch = pan1 81 (.agg #[]) ∧ G = [HC b ls, LW b2 B (at_ + n) out free]) ∨ (∃ n, HuffP.tk ls B at_ = .none_ n ∧ ch = pan1 82 (.agg #[]) ∧ G = [HC b ls, LW b2 B (at_ + n) out free]))) := by
 refine spec_of [(0, _), (1, _)] Try.func51 rfl Try.ntmps51 rfl rfl ?_
 intro w0 F
 have hV := (HuffP.newE_vl hE).1
 have hW := (HuffP.newE_vl hE).2
 have hcl := HuffP.cntL_len ls
 have hCb := HuffP.cntL_bound hV.1
 have hm15 := HuffP.mst_le hV
 have hme := HuffP.mst_eq ls
 refine w_opn (fun h hh => hh) ?_
 rintro ⟨p1, c1, p2, c2⟩ _
 dsimp only
 rw [hme]
 refine w_seq ?_
 refine w_region ?_
 refine o_val (v_assign rfl) rfl ?_
 refine o_nil ?_
 refine thn_n ?_
 refine w_seq ?_
 refine w_region ?_
 refine o_val (v_assign rfl) rfl ?_
 refine o_val (v_assign rfl) rfl ?_
 refine o_val (v_assign rfl) rfl ?_
 refine o_nil ?_
 refine thn_n ?_
 refine w_seq ?_
 refine w_seq ?_
 refine w_region ?_
 refine o_val (v_assign rfl) rfl ?_
 refine o_nil ?_
 refine thn_n ?_
 refine w_block ?_
 rw [show ((7 : Nat), Value.int .i64 0) = (7, .int .i64 (HuffP.off ls (0 + 1) : Int)) from by unfold HuffP.off; rfl]
 refine w_loop1 (fun (m : Nat) => [(0, .pointer (some ⟨b, 0, none⟩)), (1, .pointer (some ⟨b2, 0, none⟩)), (5, .int .i64 (BitP.acc B at_ m)), (6, .int .i64 (HuffP.base ls m + HuffP.cnt ls m)), (7, .int .i64 (HuffP.off ls (m + 1) : Int)), (8, .int .i64 ((m : Int) + 1))]) (fun (m : Nat) => Cel b 100 (CA [.slice p1 ls.length c1] .i64 (HuffP.cntL ls) [.slice p2 (HuffP.ord ls).length c2, .int .i64 (HuffP.mst ls : Int)]) :: Row W63 p1 ls.length c1 (HuffP.words ls) :: Row I3 p2 (HuffP.ord ls).length c2 (HuffP.ord ls) :: LW b2 B (at_ + m) out free :: F) (fun (m : Nat) => HuffP.Tk ls B at_ m) (fun (m : Nat) => HuffP.mst ls - m) (i1 (0) ?_ (.cons rfl (.cons rfl (.cons rfl (.cons rfl (.cons rfl (.cons rfl (.nil _))))))) (sub (.cons (by repeat first | exact .head | apply Rem.tail) (.cons (by repeat first | exact .head | apply Rem.tail) (.cons (by repeat first | exact .head | apply Rem.tail) (.cons (by repeat first | exact .head | apply Rem.tail) .nil)))) (by repeat first | exact .refl | apply Drop.skip))) ?_
 ·
  exact HuffP.tk_start ha
 intro m
 rintro ht
 have htl := ht.le
 refine w_seq ?_
 refine w_seq ?_
 refine w_region ?_
 refine o_val (v_move rfl) rfl ?_
 refine o_val (v_move rfl) rfl ?_
 refine o_val (v_nil rfl) rfl ?_
 refine o_val (v_fieldAddr V.f100_3 rfl) rfl ?_
 refine o_val (a_loadP (n := 16) 1 V.s3 rfl (by repeat first | exact .head _ | apply List.Mem.tail) (by first | omega | (simp only [List.length_set]; omega)) rfl rfl) rfl ?_
 refine o_val (v_leq rfl rfl) rfl ?_
 refine o_nil ?_
 refine thn_n ?_
 first | refine w_condD rfl (fun h14 => ?_) (fun h14 => ?_) | refine w_cond rfl (fun h14 => ?_) (fun h14 => ?_)
 ·
  have hcn := HuffP.cntL_i (ls := ls) (m := m) (by omega)
  have hbf := HuffP.full_le hW (n := m + 1) (by omega)
  have hbn := HuffP.base_nn ls (m + 1)
  have hc1 := HuffP.cnt_nonneg ls (m + 1)
  have hof := HuffP.off_16 hV (m := m) (by omega)
  have hac := BitP.acc_bound B at_ (m + 1)
  have hac0 := BitP.acc_bound B at_ m
  have hp15 := HuffP.pow_15 (show m + 1 ≤ 15 by omega)
  have hp14 := HuffP.pow_15 (show m ≤ 15 by omega)
  have hb := BitP.bitL_01 B (at_ + m)
  have hnn := ht.nn
  refine w_skip ?_
  refine thn_n ?_
  refine w_seq ?_
  refine w_block ?_
  rcases (Nat.lt_or_ge (at_ + m) (8 * B.length)) with hx | hx
  ·
   refine w_seq ?_
   refine w_region ?_
   refine o_val (v_move rfl) rfl ?_
   refine o_val (v_shl (r := 2 * BitP.acc B at_ m) rfl rfl (by decide) (BitP.shl1 hac0.1 (by omega))) rfl ?_
   refine o_val (v_move rfl) rfl ?_
   refine o_call (c_take b2 B (at_ + m) out free 1 hl hB (by omega) (by omega)) V.b45  rfl (.cons (by repeat first | exact .head | apply Rem.tail) .nil) rfl ?_
   rintro _ _ ⟨rfl, rfl⟩
   rw [BitP.numL_one]
   refine o_val (v_or (r := BitP.acc B at_ (m + 1)) rfl rfl (BitP.or_low hac0.1 (by omega) hb)) rfl ?_
   refine o_val (v_assign rfl) rfl ?_
   refine o_nil ?_
   refine thn_n ?_
   refine w_seq ?_
   refine w_region ?_
   refine o_val (v_move rfl) rfl ?_
   refine o_val (v_shl (r := HuffP.base ls (m + 1)) rfl rfl (by decide) (shl_base hW (by omega))) rfl ?_
   refine o_val (v_assign rfl) rfl ?_
   refine o_nil ?_
   refine thn_n ?_
   refine w_seq ?_
   refine w_seq ?_
   refine w_region ?_
   refine o_val (v_move rfl) rfl ?_
   refine o_val (v_move rfl) rfl ?_
   refine o_val (v_sub rfl rfl (wrapI (by omega) (by omega))) rfl ?_
   refine o_val (v_move rfl) rfl ?_
   refine o_val (v_move rfl) rfl ?_
   refine o_val (v_nil rfl) rfl ?_
   refine o_val (v_fieldAddr V.f100_1 rfl) rfl ?_
   refine o_val (v_indexA (m + 1) rfl V.ar85 rfl rfl (by omega)) rfl ?_
   refine o_val (a_load ((m : Int) + 1) V.s3 rfl (by repeat first | exact .head _ | apply List.Mem.tail) (by first | (simp only [List.length_cons, List.length_nil]; omega) | omega) (by omega) (by first | omega | (simp only [List.length_set]; omega))) rfl ?_
   refine o_val (v_lss rfl rfl) rfl ?_
   refine o_nil ?_
   refine thn_n ?_
   first | refine w_condD rfl (fun h33 => ?_) (fun h33 => ?_) | refine w_cond rfl (fun h33 => ?_) (fun h33 => ?_)
   ·
    refine w_seq ?_
    have hlt : BitP.acc B at_ (m + 1) - HuffP.base ls (m + 1) < HuffP.cnt ls (m + 1) := by rw [← hcn]; exact h33
    have hat := HuffP.hit_at (by omega) hnn hlt
    have hol : (HuffP.ord ls).length ≤ 320 := by rw [HuffP.ord_len]; exact HuffP.off_16 hV (m := 15) (by omega)
    refine w_region ?_
    refine o_val (v_move rfl) rfl ?_
    refine o_val (v_nil rfl) rfl ?_
    refine o_val (v_fieldAddr V.f100_2 rfl) rfl ?_
    refine o_val (a_loadP (n := 16) 0 V.s30 rfl (by repeat first | exact .head _ | apply List.Mem.tail) (by first | omega | (simp only [List.length_set]; omega)) rfl rfl) rfl ?_
    refine o_val (v_move rfl) rfl ?_
    refine o_val (v_move rfl) rfl ?_
    refine o_val (v_add rfl rfl (wrapI (by omega) (by omega))) rfl ?_
    refine o_val (v_move rfl) rfl ?_
    refine o_val (v_sub rfl rfl (wrapI (by omega) (by omega))) rfl ?_
    refine o_val (r_index (c := (I3)) V.sl30 rfl rfl (own (by repeat first | exact .head _ | apply List.Mem.tail)) (by omega) (by omega)) rfl ?_
    refine o_val (r_load (c := (I3)) V.s3 rfl (own (by repeat first | exact .head _ | apply List.Mem.tail)) (by omega) (by omega) rfl rfl) rfl ?_
    refine o_val (v_assign rfl) rfl ?_
    refine o_nil ?_
    refine thn_n ?_
    refine w_ret ?_
    refine (thn_r (blk_r (thn_r (thn_r (blk_r (thn_r ?_))))))
    rw [← hme]
    exact rp_ret (G := [HC b ls, LW b2 B (at_ + (m + 1)) out free]) (res1 rfl) ⟨m + 1, _, ht.hit (by omega) hx hlt, by rw [← gE (c := I3) (e := (HuffP.off ls (m + 1) : Int) + BitP.acc B at_ (m + 1) - HuffP.base ls (m + 1)) _ (by omega)], rfl⟩ ((fold' (.cons (by repeat first | exact .head | apply Rem.tail) (.cons (by repeat first | exact .head | apply Rem.tail) (.cons (by repeat first | exact .head | apply Rem.tail) .nil))) (by repeat first | exact .refl | apply Drop.skip) (fun w0 h hh => hc_close rfl hh)).trans (sub (.cons (by repeat first | exact .head | apply Rem.tail) (.cons (by repeat first | exact .head | apply Rem.tail) .nil)) (by repeat first | exact .refl | apply Drop.skip)))
   ·
    refine w_skip ?_
    refine thn_n ?_
    refine w_seq ?_
    refine w_region ?_
    refine o_val (v_move rfl) rfl ?_
    refine o_val (v_move rfl) rfl ?_
    refine o_val (v_move rfl) rfl ?_
    refine o_val (v_nil rfl) rfl ?_
    refine o_val (v_fieldAddr V.f100_1 rfl) rfl ?_
    refine o_val (v_indexA (m + 1) rfl V.ar85 rfl rfl (by omega)) rfl ?_
    refine o_val (a_load ((m : Int) + 1) V.s3 rfl (by repeat first | exact .head _ | apply List.Mem.tail) (by first | (simp only [List.length_cons, List.length_nil]; omega) | omega) (by omega) (by first | omega | (simp only [List.length_set]; omega))) rfl ?_
    refine o_val (v_add rfl rfl (wrapI (by omega) (by omega))) rfl ?_
    refine o_val (v_assign rfl) rfl ?_
    refine o_nil ?_
    refine thn_n ?_
    refine w_region ?_
    refine o_val (v_move rfl) rfl ?_
    refine o_val (v_move rfl) rfl ?_
    refine o_val (v_move rfl) rfl ?_
    refine o_val (v_nil rfl) rfl ?_
    refine o_val (v_fieldAddr V.f100_1 rfl) rfl ?_
    refine o_val (v_indexA (m + 1) rfl V.ar85 rfl rfl (by omega)) rfl ?_
    refine o_val (a_load ((m : Int) + 1) V.s3 rfl (by repeat first | exact .head _ | apply List.Mem.tail) (by first | (simp only [List.length_cons, List.length_nil]; omega) | omega) (by omega) (by first | omega | (simp only [List.length_set]; omega))) rfl ?_
    refine o_val (v_add rfl rfl (wrapI (by omega) (by omega))) rfl ?_
    refine o_val (v_assign rfl) rfl ?_
    refine o_nil ?_
    refine blk_n ?_
    refine thn_n ?_
    refine w_region ?_
    refine o_val (v_move rfl) rfl ?_
    refine o_val (v_add rfl rfl (wrapI (by omega) (by omega))) rfl ?_
    refine o_val (v_assign rfl) rfl ?_
    refine o_nil ?_
    rw [hcn, ← HuffP.off_cnt ls (m + 1), show (m : Int) + 1 = ((m + 1 : Nat) : Int) from by omega]
    refine j1 (m + 1) ?_ (.cons rfl (.cons rfl (.cons rfl (.cons rfl (.cons rfl (.cons rfl (.nil _))))))) (sub (.cons (by repeat first | exact .head | apply Rem.tail) (.cons (by repeat first | exact .head | apply Rem.tail) (.cons (by repeat first | exact .head | apply Rem.tail) (.cons (by repeat first | exact .head | apply Rem.tail) .nil)))) (by repeat first | exact .refl | apply Drop.skip))
    exact ⟨ht.miss (by omega) hx (by rw [← hcn]; assumption), by omega⟩
  ·
   refine w_seq ?_
   refine w_region ?_
   refine o_val (v_move rfl) rfl ?_
   refine o_val (v_shl (r := 2 * BitP.acc B at_ m) rfl rfl (by decide) (BitP.shl1 hac0.1 (by omega))) rfl ?_
   refine o_val (v_move rfl) rfl ?_
   refine o_callE (c_takeE b2 B (at_ + m) out free 1 hl hB (by omega) ht.room (by omega)) V.b45 rfl (.cons (by repeat first | exact .head | apply Rem.tail) .nil) ?_
   rintro _ _ ⟨rfl, rfl⟩
   refine (thn_p (blk_p (thn_p (thn_p (blk_p (thn_p ?_))))))
   rw [← hme]
   exact rp_pan (G := [HC b ls, LW b2 B (at_ + m) out free]) (.inl ⟨m, ht.short (by omega) (by omega), rfl, rfl⟩) ((fold' (.cons (by repeat first | exact .head | apply Rem.tail) (.cons (by repeat first | exact .head | apply Rem.tail) (.cons (by repeat first | exact .head | apply Rem.tail) .nil))) (by repeat first | exact .refl | apply Drop.skip) (fun w0 h hh => hc_close rfl hh)).trans (sub (.cons (by repeat first | exact .head | apply Rem.tail) (.cons (by repeat first | exact .head | apply Rem.tail) .nil)) (by repeat first | exact .refl | apply Drop.skip)))
 ·
  refine w_exit ?_
  refine thn_e ?_
  refine thn_e ?_
  refine blk_x ?_
  refine thn_n ?_
  refine w_region ?_
  refine o_val (v_build V.pl82 V.z82 rfl (cs := []) rfl) rfl ?_
  refine o_val (v_iface V.c82 rfl) rfl ?_
  refine o_panic rfl ?_
  skip
  rw [← hme]
  exact rp_pan (G := [HC b ls, LW b2 B (at_ + m) out free]) (.inr ⟨m, ht.none (by omega), rfl, rfl⟩) ((fold' (.cons (by repeat first | exact .head | apply Rem.tail) (.cons (by repeat first | exact .head | apply Rem.tail) (.cons (by repeat first | exact .head | apply Rem.tail) .nil))) (by repeat first | exact .refl | apply Drop.skip) (fun w0 h hh => hc_close rfl hh)).trans (sub (.cons (by repeat first | exact .head | apply Rem.tail) (.cons (by repeat first | exact .head | apply Rem.tail) .nil)) (by repeat first | exact .refl | apply Drop.skip)))

end Go.Proofs.Ytoplcgkafaoafaa

/-
 Steps of the proof: walks of functions that the statement reaches; printed by a program of ours.
-/
namespace Go.Proofs.Ytoplcgkafaoafaa
open Go.Sl 
set_option linter.unusedVariables false
set_option linter.unusedSimpArgs false

set_option maxRecDepth 100000 in
theorem c_must (e : Int) : Ctr Try.prog 47 [.bool true, .int .i64 e] [] (Ret fun v G => v = .tuple #[] ∧ G = []) := by
 refine spec_of [(0, _), (1, _)] Try.func47 rfl Try.ntmps47 rfl rfl ?_
 intro w0 F
 refine w_seq ?_
 refine w_region ?_
 refine o_val (v_move rfl) rfl ?_
 refine o_val (v_to (v := .bool false) (v_not rfl) rfl) rfl ?_
 refine o_nil ?_
 refine thn_n ?_
 refine w_condF rfl ?_
 refine w_skip ?_
 exact end_ok (G := []) res0 ⟨rfl, rfl⟩ (sub .nil (by repeat first | exact .refl | apply Drop.skip))

set_option maxRecDepth 100000 in
theorem c_mustE (e : Int) : Ctr Try.prog 47 [.bool false, .int .i64 e] [] (Pan fun ch G => ch = pan1 24 (.int .i64 e) ∧ G = []) := by
 refine spec_of [(0, _), (1, _)] Try.func47 rfl Try.ntmps47 rfl rfl ?_
 intro w0 F
 refine w_seq ?_
 refine w_region ?_
 refine o_val (v_move rfl) rfl ?_
 refine o_val (v_to (v := .bool true) (v_not rfl) rfl) rfl ?_
 refine o_nil ?_
 refine thn_n ?_
 refine w_condT rfl ?_
 refine w_region ?_
 refine o_val (v_move rfl) rfl ?_
 refine o_val (v_iface V.c24 rfl) rfl ?_
 refine o_panic rfl ?_
 skip
 exact pan_ok (G := []) ⟨rfl, rfl⟩ (sub .nil (by repeat first | exact .refl | apply Drop.skip))

set_option maxRecDepth 100000 in
theorem c_put1 (b bl : Nat) (sz mo : Int) (li di : Value) (s : InfP.St) (yb : Int) (hy : 0 ≤ yb ∧ yb < 256) (hm : mo < 1000000000) : Ctr Try.prog 41 [.pointer (some ⟨b, 0, none⟩), .int .u8 yb] [MS b bl sz mo li di s] (PostE (InfP.put_ mo s yb) (fun s2 v G => v = .tuple #[] ∧ G = [MS b bl sz mo li di s2]) [MX b bl sz mo]) := by
 refine spec_of [(0, _), (1, _)] Try.func41 rfl Try.ntmps41 rfl rfl ?_
 intro w0 F
 refine w_opn (fun h hh => hh) ?_
 rintro ⟨po, co⟩ _
 dsimp only
 rcases (Classical.em ((s.out.length : Int) < mo)) with hx | hx
 ·
  refine w_seq ?_
  refine w_net [⟨[], [], [0], 0, 0⟩, ⟨[0], [0], [], 0, 0⟩, ⟨[0, 1], [1], [], 0, 0⟩, ⟨[0, 1, 2], [2], [], 0, 0⟩, ⟨[0, 1, 2, 3], [3], [], 0, 0⟩, ⟨[], [], [0], 0, 0⟩, ⟨[5], [5], [], 0, 0⟩, ⟨[5, 6], [6], [], 0, 0⟩, ⟨[5, 6, 7], [7], [], 0, 0⟩, ⟨[0, 1, 2, 3, 4, 5, 6, 7, 8], [4, 8], [], 0, 0⟩, ⟨[0, 1, 2, 3, 4, 5, 6, 7, 8, 9], [9], [], 0, 0⟩] [⟨fun y => Cel b 67 [.pointer (some ⟨bl, 0, none⟩), .int .i64 sz, .int .i64 mo, .slice po s.out.length co, .bool s.ended, .int .i64 0, .int .i64 s.kind, .int .i64 (s.left : Int), .bool s.last, li, di, .int .i64 (s.copies : Int), .int .i64 (s.far : Int)], none, none, [3, 8]⟩, ⟨fun y => Row U5 po s.out.length co s.out, none, none, []⟩] F V.mixed (by kernel_rfl) rfl (fun _ => .refl _) (locT_0 _ (locT_0 _ locT_nil)) ?_
  refine net_pure (fun y => [(0, _)]) (fun y => rfl) rfl rfl rfl (fun y hA L => st_v (v_move rfl) ⟨rfl, rfl⟩) (by intros; rfl) (by intro y y2 h; rfl) ?_
  refine net_pure (fun y => [(4, _)]) (fun y => rfl) rfl rfl rfl (fun y hA L => st_v (v_nil rfl) ⟨rfl, rfl⟩) (by intros; rfl) (by intro y y2 h; rfl) ?_
  refine net_pure (fun y => [(5, _)]) (fun y => rfl) rfl rfl rfl (fun y hA L => st_v (v_fieldAddr V.f67_3 rfl) ⟨rfl, rfl⟩) (by intros; rfl) (by intro y y2 h; rfl) ?_
  refine net_read (fun y => [Cel b 67 [.pointer (some ⟨bl, 0, none⟩), .int .i64 sz, .int .i64 mo, .slice po s.out.length co, .bool s.ended, .int .i64 0, .int .i64 s.kind, .int .i64 (s.left : Int), .bool s.last, li, di, .int .i64 (s.copies : Int), .int .i64 (s.far : Int)]]) (fun y => [(6, _)]) (fun y => rfl) rfl (fun y => rfl) rfl (fun y FF hA => st_v (v_load V.s22 rfl (by repeat first | exact .head _ | apply List.Mem.tail) rfl) ⟨rfl, rfl⟩) (by intros; rfl) (by intro y y2 h; rfl) ?_
  refine net_pure (fun y => [(7, _)]) (fun y => rfl) rfl rfl rfl (fun y hA L => st_v (v_len (ty' := 0) Try.underlying22 rfl) ⟨rfl, rfl⟩) (by intros; rfl) (by intro y y2 h; rfl) ?_
  refine net_pure (fun y => [(0, _)]) (fun y => rfl) rfl rfl rfl (fun y hA L => st_v (v_move rfl) ⟨rfl, rfl⟩) (by intros; rfl) (by intro y y2 h; rfl) ?_
  refine net_pure (fun y => [(9, _)]) (fun y => rfl) rfl rfl rfl (fun y hA L => st_v (v_nil rfl) ⟨rfl, rfl⟩) (by intros; rfl) (by intro y y2 h; rfl) ?_
  refine net_pure (fun y => [(10, _)]) (fun y => rfl) rfl rfl rfl (fun y hA L => st_v (v_fieldAddr V.f67_2 rfl) ⟨rfl, rfl⟩) (by intros; rfl) (by intro y y2 h; rfl) ?_
  refine net_read (fun y => [Cel b 67 [.pointer (some ⟨bl, 0, none⟩), .int .i64 sz, .int .i64 mo, .slice po s.out.length co, .bool s.ended, .int .i64 0, .int .i64 s.kind, .int .i64 (s.left : Int), .bool s.last, li, di, .int .i64 (s.copies : Int), .int .i64 (s.far : Int)]]) (fun y => [(11, _)]) (fun y => rfl) rfl (fun y => rfl) rfl (fun y FF hA => st_v (v_load V.s3 rfl (by repeat first | exact .head _ | apply List.Mem.tail) rfl) ⟨rfl, rfl⟩) (by intros; rfl) (by intro y y2 h; rfl) ?_
  refine net_pure (fun y => [(8, _), (12, _)]) (fun y => rfl) rfl rfl rfl (fun y hA L => st_v (v_T (v_lss rfl rfl) hx) ⟨rfl, rfl⟩) (by intros; rfl) (by intro y y2 h; rfl) ?_
  refine net_eff (fun y => []) (fun y => []) (fun y => []) (fun y => [(13, _)]) (fun y => rfl) (fun y => rfl) (fun y => rfl) (fun y => rfl) (fun y FF hA => st_callN (Post := []) (c_must 6) V.b47 rfl .nil (fun v G h => by rcases h with ⟨rfl, rfl⟩; exact ⟨rfl, .refl _⟩)) (by intros; rfl) (by intros; rfl) (by intro y y2 h; rfl) ?_
  refine net_nil ?_
  intro y hA
  clear hA
  refine thn_n ?_
  refine w_keep _ (.cons (d := 0) rfl (.cons (d := 1) rfl (.nil _))) ?_
  refine w_sub (M := Cel b 67 [.pointer (some ⟨bl, 0, none⟩), .int .i64 sz, .int .i64 mo, .slice po s.out.length co, .bool s.ended, .int .i64 0, .int .i64 s.kind, .int .i64 (s.left : Int), .bool s.last, li, di, .int .i64 (s.copies : Int), .int .i64 (s.far : Int)] :: Row U5 po s.out.length co s.out :: F) (fun _ _ h => h) ?_
  refine w_region ?_
  refine o_val (v_move rfl) rfl ?_
  refine o_val (v_move rfl) rfl ?_
  refine o_val (v_nil rfl) rfl ?_
  refine o_val (v_fieldAddr V.f67_3 rfl) rfl ?_
  refine o_val (v_load V.s22 rfl (by repeat first | exact .head _ | apply List.Mem.tail) rfl) rfl ?_
  refine o_val (v_move rfl) rfl ?_
  refine r_build (U5) [yb] V.sl22 V.z5 rfl rfl rfl rfl rfl rfl ?_
  intro b21
  refine r_append (c := (U5)) V.sl22 V.z5 rfl rfl rfl rfl (by repeat first | exact .head | apply Rem.tail) (own (by repeat first | exact .head _ | apply List.Mem.tail)) (by omega) rfl ?_
  intro p22 c22
  refine o_val (v_nil rfl) rfl ?_
  refine o_val (v_fieldAddr V.f67_3 rfl) rfl ?_
  refine o_eff (v_store V.s22 rfl rfl rfl (by repeat first | exact .head | apply Rep.tail) (by exact Nat.le_of_ble_eq_true rfl) rfl) ?_
  refine o_nil ?_
  exact pe_end (x := { s with out := s.out ++ [yb] }) (by unfold InfP.put_; rw [if_pos hx]) res0 ⟨rfl, rfl⟩ ((fold' (.cons (by repeat first | exact .head | apply Rem.tail) (.cons (by repeat first | exact .head | apply Rem.tail) .nil)) (by repeat first | exact .refl | apply Drop.skip) (fun w0 h hh => ms_close (s := { s with out := s.out ++ [yb] }) (by simp) hh)))
 ·
  refine w_seq ?_
  refine w_net [⟨[], [], [0], 0, 0⟩, ⟨[0], [0], [], 0, 0⟩, ⟨[0, 1], [1], [], 0, 0⟩, ⟨[0, 1, 2], [2], [], 0, 0⟩, ⟨[0, 1, 2, 3], [3], [], 0, 0⟩, ⟨[], [], [0], 0, 0⟩, ⟨[5], [5], [], 0, 0⟩, ⟨[5, 6], [6], [], 0, 0⟩, ⟨[5, 6, 7], [7], [], 0, 0⟩, ⟨[0, 1, 2, 3, 4, 5, 6, 7, 8], [4, 8], [], 0, 0⟩, ⟨[0, 1, 2, 3, 4, 5, 6, 7, 8, 9], [9], [], 0, 0⟩] [⟨fun y => Cel b 67 [.pointer (some ⟨bl, 0, none⟩), .int .i64 sz, .int .i64 mo, .slice po s.out.length co, .bool s.ended, .int .i64 0, .int .i64 s.kind, .int .i64 (s.left : Int), .bool s.last, li, di, .int .i64 (s.copies : Int), .int .i64 (s.far : Int)], none, none, [3, 8, 10]⟩, ⟨fun y => Row U5 po s.out.length co s.out, none, none, []⟩] F V.mixed (by kernel_rfl) rfl (fun _ => .refl _) (locT_0 _ (locT_0 _ locT_nil)) ?_
  refine net_pure (fun y => [(0, _)]) (fun y => rfl) rfl rfl rfl (fun y hA L => st_v (v_move rfl) ⟨rfl, rfl⟩) (by intros; rfl) (by intro y y2 h; rfl) ?_
  refine net_pure (fun y => [(4, _)]) (fun y => rfl) rfl rfl rfl (fun y hA L => st_v (v_nil rfl) ⟨rfl, rfl⟩) (by intros; rfl) (by intro y y2 h; rfl) ?_
  refine net_pure (fun y => [(5, _)]) (fun y => rfl) rfl rfl rfl (fun y hA L => st_v (v_fieldAddr V.f67_3 rfl) ⟨rfl, rfl⟩) (by intros; rfl) (by intro y y2 h; rfl) ?_
  refine net_read (fun y => [Cel b 67 [.pointer (some ⟨bl, 0, none⟩), .int .i64 sz, .int .i64 mo, .slice po s.out.length co, .bool s.ended, .int .i64 0, .int .i64 s.kind, .int .i64 (s.left : Int), .bool s.last, li, di, .int .i64 (s.copies : Int), .int .i64 (s.far : Int)]]) (fun y => [(6, _)]) (fun y => rfl) rfl (fun y => rfl) rfl (fun y FF hA => st_v (v_load V.s22 rfl (by repeat first | exact .head _ | apply List.Mem.tail) rfl) ⟨rfl, rfl⟩) (by intros; rfl) (by intro y y2 h; rfl) ?_
  refine net_pure (fun y => [(7, _)]) (fun y => rfl) rfl rfl rfl (fun y hA L => st_v (v_len (ty' := 0) Try.underlying22 rfl) ⟨rfl, rfl⟩) (by intros; rfl) (by intro y y2 h; rfl) ?_
  refine net_pure (fun y => [(0, _)]) (fun y => rfl) rfl rfl rfl (fun y hA L => st_v (v_move rfl) ⟨rfl, rfl⟩) (by intros; rfl) (by intro y y2 h; rfl) ?_
  refine net_pure (fun y => [(9, _)]) (fun y => rfl) rfl rfl rfl (fun y hA L => st_v (v_nil rfl) ⟨rfl, rfl⟩) (by intros; rfl) (by intro y y2 h; rfl) ?_
  refine net_pure (fun y => [(10, _)]) (fun y => rfl) rfl rfl rfl (fun y hA L => st_v (v_fieldAddr V.f67_2 rfl) ⟨rfl, rfl⟩) (by intros; rfl) (by intro y y2 h; rfl) ?_
  refine net_read (fun y => [Cel b 67 [.pointer (some ⟨bl, 0, none⟩), .int .i64 sz, .int .i64 mo, .slice po s.out.length co, .bool s.ended, .int .i64 0, .int .i64 s.kind, .int .i64 (s.left : Int), .bool s.last, li, di, .int .i64 (s.copies : Int), .int .i64 (s.far : Int)]]) (fun y => [(11, _)]) (fun y => rfl) rfl (fun y => rfl) rfl (fun y FF hA => st_v (v_load V.s3 rfl (by repeat first | exact .head _ | apply List.Mem.tail) rfl) ⟨rfl, rfl⟩) (by intros; rfl) (by intro y y2 h; rfl) ?_
  refine net_pure (fun y => [(8, _), (12, _)]) (fun y => rfl) rfl rfl rfl (fun y hA L => st_v (v_F (v_lss rfl rfl) hx) ⟨rfl, rfl⟩) (by intros; rfl) (by intro y y2 h; rfl) ?_
  refine net_pan (undef) (fun y => [Cel b 67 [.pointer (some ⟨bl, 0, none⟩), .int .i64 sz, .int .i64 mo, .slice po s.out.length co, .bool s.ended, .int .i64 0, .int .i64 s.kind, .int .i64 (s.left : Int), .bool s.last, li, di, .int .i64 (s.copies : Int), .int .i64 (s.far : Int)]]) (fun y => [(13, _)]) (fun y => rfl) rfl (fun y => rfl) (fun y FF hA => st_callE (c_mustE 6) V.b47 rfl .nil (by rintro _ _ ⟨rfl, rfl⟩; exact x_pe (by unfold InfP.put_; rw [if_neg hx]) (PE.no (by decide)) (fold' (.cons (by repeat first | exact .head | apply Rem.tail) .nil) (by first | exact dp0 (M := FF) (F := F) | exact dp1 (M := FF) (F := F) | exact dp2 (M := FF) (F := F) | exact dp3 (M := FF) (F := F) | exact dp4 (M := FF) (F := F) | exact dp5 (M := FF) (F := F) | exact dp6 (M := FF) (F := F) | exact dp7 (M := FF) (F := F) | exact dp8 (M := FF) (F := F) | exact dp9 (M := FF) (F := F)) (fun w0 h hh => mx_close hh)))) ?_
  refine net_nil ?_
  intro y hA
  exact (KnN.fact (hA 10 (by exact Nat.le_of_ble_eq_true rfl)) (q := fun _ => False) rfl).elim
end Go.Proofs.Ytoplcgkafaoafaa

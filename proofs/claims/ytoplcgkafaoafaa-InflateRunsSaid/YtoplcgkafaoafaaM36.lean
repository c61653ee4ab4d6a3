/- Steps of the proof: the walks of the functions that the statement reaches; printed by a program of ours. -/
import Derived.Test.YtoplcgkafaoafaaM35
/-
  Steps of the proof: walks of functions that the statement reaches; printed by a program of ours.
-/
namespace Go.Proofs.Ytoplcgkafaoafaa
open Go.Sl 
set_option linter.unusedVariables false
set_option linter.unusedSimpArgs false

attribute [local irreducible] HuffP.newE HuffP.tk HuffP.ord HuffP.cntL HuffP.words HuffP.mostL InfP.fixK InfP.frs

set_option maxRecDepth 100000 in
theorem c_code (p : Option Addr) (n cap : Nat) (ls : List Int) (R : HProp) (hn : n = ls.length) (hR : ∀ w0 h, R w0 h → RdR I3 p ls.length ls w0 h) : Ctr Try.prog 57 [.slice p n cap] [R] (PostE (InfP.codeE ls) (fun _ v G => ∃ b, v = .pointer (some ⟨b, 0, none⟩) ∧ G = [HC b ls, R]) []) := by
  subst hn
  refine spec_of [(0, _)] Try.func57 rfl Try.ntmps57 rfl rfl ?_
  intro w0 F
  refine w_seq ?_
  refine w_region ?_
  refine o_val (v_assign rfl) rfl ?_
  refine o_nil ?_
  refine thn_n ?_
  rcases (Classical.em (HuffP.newE ls = 0)) with hE | hE
  ·
    refine w_seq ?_
    refine w_region ?_
    refine o_val (v_move rfl) rfl ?_
    refine o_call (h_new_yes p cap ls R hR hE) V.b60  rfl (.cons (by repeat first | exact .head | apply Rem.tail) .nil) rfl ?_
    rintro _ _ ⟨bh, rfl, rfl⟩
    refine o_val (v_move rfl) rfl ?_
    refine o_val (v_extract rfl rfl) rfl ?_
    refine o_val (v_extract rfl rfl) rfl ?_
    refine o_val (v_assign rfl) rfl ?_
    refine o_val (v_assign rfl) rfl ?_
    refine o_nil ?_
    refine thn_n ?_
    refine w_seq ?_
    refine w_region ?_
    refine o_val (v_move rfl) rfl ?_
    refine o_val (v_T (v_eql rfl rfl) rfl) rfl ?_
    refine o_call (c_must 4) V.b47  rfl .nil rfl ?_
    rintro _ _ ⟨rfl, rfl⟩
    refine o_nil ?_
    refine thn_n ?_
    refine w_seq ?_
    refine w_region ?_
    refine o_val (v_move rfl) rfl ?_
    refine o_val (v_assign rfl) rfl ?_
    refine o_nil ?_
    refine thn_n ?_
    refine w_ret ?_
    exact pe_ret (x := ()) (by unfold InfP.codeE; rw [if_pos hE]) (res1 rfl) ⟨bh, rfl, rfl⟩ (sub (.cons (by repeat first | exact .head | apply Rem.tail) (.cons (by repeat first | exact .head | apply Rem.tail) .nil)) (by repeat first | exact .refl | apply Drop.skip))
  ·
    refine w_seq ?_
    refine w_region ?_
    refine o_val (v_move rfl) rfl ?_
    refine o_call (h_new_no p cap ls R hR hE) V.b60  rfl (.cons (by repeat first | exact .head | apply Rem.tail) .nil) rfl ?_
    rintro _ _ ⟨rfl, rfl⟩
    refine o_val (v_move rfl) rfl ?_
    refine o_val (v_extract rfl rfl) rfl ?_
    refine o_val (v_extract rfl rfl) rfl ?_
    refine o_val (v_assign rfl) rfl ?_
    refine o_val (v_assign rfl) rfl ?_
    refine o_nil ?_
    refine thn_n ?_
    refine w_seq ?_
    refine w_region ?_
    refine o_val (v_move rfl) rfl ?_
    refine o_val (v_F (v_eql rfl rfl) hE) rfl ?_
    refine o_callE (c_mustE 4) V.b47 rfl .nil ?_
    rintro _ _ ⟨rfl, rfl⟩
    refine (thn_p ?_)
    exact pe_pan (e := 4) (by unfold InfP.codeE; rw [if_neg hE]) (PE.no (by decide)) (sub .nil (by repeat first | exact .refl | apply Drop.skip))

set_option maxRecDepth 100000 in
theorem c_row (x : Int) (n : Nat) (hn : n < 1000000) : Ctr Try.prog 56 [.int .i64 x, .int .i64 (n : Int)] [] (Ret fun v G => ∃ p c, v = .slice p n c ∧ G = [Row I3 p n c (List.replicate n x)]) := by
  refine spec_of [(0, _), (1, _)] Try.func56 rfl Try.ntmps56 rfl rfl ?_
  intro w0 F
  refine w_seq ?_
  refine w_region ?_
  refine o_val (v_assign rfl) rfl ?_
  refine o_nil ?_
  refine thn_n ?_
  refine w_seq ?_
  refine w_region ?_
  refine o_val (v_assign rfl) rfl ?_
  refine o_nil ?_
  refine thn_n ?_
  refine w_seq ?_
  refine w_seq ?_
  refine w_region ?_
  refine o_val (v_move rfl) rfl ?_
  refine o_val (v_move rfl) rfl ?_
  refine o_nil ?_
  refine thn_n ?_
  refine w_block ?_
  refine w_add0 (Row I3 none 0 0 (List.replicate 0 x)) (Row.nil _ _ _) ?_
  refine w_loop3 (fun (k : Nat) (po : Option Addr) (co : Nat) => [(0, .int .i64 x), (5, .slice po k co), (6, .int .i64 (n : Int)), (7, .int .i64 (k : Int))]) (fun (k : Nat) (po : Option Addr) (co : Nat) => Row I3 po k co (List.replicate k x) :: F) (fun (k : Nat) (po : Option Addr) (co : Nat) => k ≤ n) (fun (k : Nat) (po : Option Addr) (co : Nat) => n - k) (i3 (0) (none) (0) ?_ (.cons rfl (.cons rfl (.cons rfl (.cons rfl (.nil _))))) (sub (.cons (by repeat first | exact .head | apply Rem.tail) .nil) (by repeat first | exact .refl | apply Drop.skip))) ?_
  ·
    exact Nat.zero_le _
  intro k po co
  rintro hk
  refine w_seq ?_
  refine w_region ?_
  refine o_val (v_lss rfl rfl) rfl ?_
  refine o_nil ?_
  refine thn_n ?_
  refine w_seq ?_
  first | refine w_condD rfl (fun h8 => ?_) (fun h8 => ?_) | refine w_cond rfl (fun h8 => ?_) (fun h8 => ?_)
  ·
    refine w_skip ?_
    refine thn_n ?_
    refine w_seq ?_
    refine w_block ?_
    refine w_region ?_
    refine o_val (v_move rfl) rfl ?_
    refine o_val (v_move rfl) rfl ?_
    refine r_build (I3) [x] V.sl30 V.z3 rfl rfl rfl rfl rfl rfl ?_
    intro b11
    refine r_append (c := (I3)) V.sl30 V.z3 rfl rfl rfl rfl (by repeat first | exact .head | apply Rem.tail) (own (by repeat first | exact .head _ | apply List.Mem.tail)) (by omega) rfl ?_
    intro p12 c12
    refine o_val (v_assign rfl) rfl ?_
    refine o_nil ?_
    refine blk_n ?_
    refine thn_n ?_
    refine w_region ?_
    refine o_val (v_add rfl rfl (wrapI (by omega) (by omega))) rfl ?_
    refine o_val (v_move rfl) rfl ?_
    refine o_nil ?_
    rw [← List.replicate_succ']
    refine j3 (k + 1) (_) (_) ?_ (.cons rfl (.cons rfl (.cons rfl (.cons rfl (.nil _))))) (sub (.cons (by repeat first | exact .head | apply Rem.tail) .nil) (by repeat first | exact .refl | apply Drop.skip))
    exact ⟨by omega, by omega⟩
  ·
    refine w_exit ?_
    refine thn_e ?_
    refine thn_e ?_
    refine blk_x ?_
    refine thn_n ?_
    refine w_seq ?_
    refine w_region ?_
    refine o_val (v_move rfl) rfl ?_
    refine o_val (v_assign rfl) rfl ?_
    refine o_nil ?_
    refine thn_n ?_
    refine w_ret ?_
    obtain rfl : k = n := by omega
    exact ret_ok (G := [_]) (res1 rfl) ⟨po, co, rfl, rfl⟩ (sub (.cons (by repeat first | exact .head | apply Rem.tail) .nil) (by repeat first | exact .refl | apply Drop.skip))

set_option maxRecDepth 100000 in
theorem c_order  : Ctr Try.prog 58 [] [] (Ret fun v G => ∃ p, v = .slice p 19 19 ∧ G = [Row I3 p 19 19 InfP.ordr]) := by
  refine spec_of [] Try.func58 rfl Try.ntmps58 rfl rfl ?_
  intro w0 F
  refine w_seq ?_
  refine w_region ?_
  refine o_val (v_assign rfl) rfl ?_
  refine o_nil ?_
  refine thn_n ?_
  refine w_seq ?_
  refine w_region ?_
  refine r_build (I3) [16, 17, 18, 0, 8, 7, 9, 6, 10, 5, 11, 4, 12, 3, 13, 2, 14, 1, 15] V.sl30 V.z3 rfl rfl rfl rfl rfl rfl ?_
  intro b1
  refine o_val (v_assign rfl) rfl ?_
  refine o_nil ?_
  refine thn_n ?_
  refine w_ret ?_
  exact ret_ok (G := [Row I3 (some ⟨b1, 0, none⟩) 19 19 InfP.ordr]) (res1 rfl) ⟨_, rfl, rfl⟩ (sub (.cons (by repeat first | exact .head | apply Rem.tail) .nil) (by repeat first | exact .refl | apply Drop.skip))

set_option maxRecDepth 100000 in
theorem c_align (b : Nat) (B : List Int) (at_ : Nat) (out : List Int) (free : Int) (hl : B.length < 500000000) (ha : at_ ≤ 8 * B.length) : Ctr Try.prog 48 [.pointer (some ⟨b, 0, none⟩)] [LW b B at_ out free] (Ret fun v G => v = .tuple #[] ∧ G = [LW b B (InfP.alg at_) out free]) := by
  refine spec_of [(0, _)] Try.func48 rfl Try.ntmps48 rfl rfl ?_
  intro w0 F
  refine w_opn (fun h hh => hh) ?_
  rintro ⟨p1, c1, p2, c2⟩ _
  dsimp only
  refine w_region ?_
  refine o_val (v_move rfl) rfl ?_
  refine o_val (v_move rfl) rfl ?_
  refine o_val (v_nil rfl) rfl ?_
  refine o_val (v_fieldAddr V.f79_0 rfl) rfl ?_
  refine o_val (v_fieldAddr V.f77_2 rfl) rfl ?_
  refine o_val (v_load V.s3 rfl (by repeat first | exact .head _ | apply List.Mem.tail) rfl) rfl ?_
  refine o_val (v_add rfl rfl (wrapI (by omega) (by omega))) rfl ?_
  refine o_val (v_sub rfl rfl (wrapI (by omega) (by omega))) rfl ?_
  refine o_val (v_quo rfl rfl (by omega) (quoI (by omega) (by omega) (by omega))) rfl ?_
  refine o_val (v_mul rfl rfl (wrapI (by omega) (by omega))) rfl ?_
  refine o_val (v_nil rfl) rfl ?_
  refine o_val (v_fieldAddr V.f79_0 rfl) rfl ?_
  refine o_val (v_fieldAddr V.f77_2 rfl) rfl ?_
  refine o_eff (v_store V.s3 rfl rfl rfl (by repeat first | exact .head | apply Rep.tail) (by exact Nat.le_of_ble_eq_true rfl) rfl) ?_
  refine o_nil ?_
  rw [show ((at_ : Int) + 8 - 1) / 8 * 8 = ((InfP.alg at_ : Nat) : Int) from by unfold InfP.alg; omega]
  exact end_ok (G := [LW b B (InfP.alg at_) out free]) res0 ⟨rfl, rfl⟩ (fold' (.cons (by repeat first | exact .head | apply Rem.tail) (.cons (by repeat first | exact .head | apply Rem.tail) (.cons (by repeat first | exact .head | apply Rem.tail) .nil))) (by repeat first | exact .refl | apply Drop.skip) (fun w0 h hh => lw_close hh))


theorem c_sym (b : Nat) (ls : List Int) (b2 : Nat) (B : List Int) (at_ : Nat) (out : List Int) (free : Int) (hE : HuffP.newE ls = 0) (hl : B.length < 500000000) (hB : BitP.Byt B) (ha : at_ ≤ 8 * B.length) : Ctr Try.prog 51 [.pointer (some ⟨b, 0, none⟩), .pointer (some ⟨b2, 0, none⟩)] [HC b ls, LW b2 B at_ out free] (PostE (InfP.sym ls B at_) (fun x v G => v = .int .i64 x.1 ∧ G = [HC b ls, LW b2 B x.2 out free]) []) := by
  intro w0 F w hi
  refine (h_take b ls b2 B at_ out free hE hl hB ha w0 F w hi).mono ?_
  rintro e w' ⟨G, h1, (⟨v, rfl, n', s', h, rfl, rfl⟩ | ⟨ch, rfl, (⟨n', h, rfl, rfl⟩ | ⟨n', h, rfl, rfl⟩)⟩)⟩
  · exact ⟨_, h1, .inl ⟨_, rfl, (s', at_ + n'), by unfold InfP.sym; rw [h], rfl, rfl⟩⟩
  · exact ⟨[], h1.right, .inr ⟨_, rfl, 2, by unfold InfP.sym; rw [h], PE.end_, rfl⟩⟩
  · exact ⟨[], h1.right, .inr ⟨_, rfl, 4, by unfold InfP.sym; rw [h], PE.none_, rfl⟩⟩

end Go.Proofs.Ytoplcgkafaoafaa

/-
 Steps of the proof: walks of functions that the statement reaches; printed by a program of ours.
-/
namespace Go.Proofs.Ytoplcgkafaoafaa
open Go.Sl 
set_option linter.unusedVariables false
set_option linter.unusedSimpArgs false

attribute [local irreducible] HuffP.newE HuffP.tk HuffP.ord HuffP.cntL HuffP.words HuffP.mostL InfP.fixK InfP.frs

set_option maxRecDepth 100000 in
theorem c_close (b bl : Nat) (sz mo : Int) (po : Option Addr) (no co : Nat) (li di : Value) (s : InfP.St) : Ctr Try.prog 44 [.pointer (some ⟨b, 0, none⟩)] [Cel b 67 [.pointer (some ⟨bl, 0, none⟩), .int .i64 sz, .int .i64 mo, .slice po no co, .bool s.ended, .int .i64 0, .int .i64 s.kind, .int .i64 (s.left : Int), .bool s.last, li, di, .int .i64 (s.copies : Int), .int .i64 (s.far : Int)]] (Ret fun v G => v = .tuple #[] ∧ G = [Cel b 67 [.pointer (some ⟨bl, 0, none⟩), .int .i64 sz, .int .i64 mo, .slice po no co, .bool s.last, .int .i64 0, .int .i64 (-1), .int .i64 (s.left : Int), .bool s.last, li, di, .int .i64 (s.copies : Int), .int .i64 (s.far : Int)]]) := by
 refine spec_of [(0, _)] Try.func44 rfl Try.ntmps44 rfl rfl ?_
 intro w0 F
 refine w_region ?_
 refine o_val (v_move rfl) rfl ?_
 refine o_val (v_move rfl) rfl ?_
 refine o_val (v_move rfl) rfl ?_
 refine o_val (v_nil rfl) rfl ?_
 refine o_val (v_fieldAddr V.f67_8 rfl) rfl ?_
 refine o_val (v_load V.s4 rfl (by repeat first | exact .head _ | apply List.Mem.tail) rfl) rfl ?_
 refine o_val (v_nil rfl) rfl ?_
 refine o_val (v_fieldAddr V.f67_6 rfl) rfl ?_
 refine o_eff (v_store V.s3 rfl rfl rfl (by repeat first | exact .head | apply Rep.tail) (by exact Nat.le_of_ble_eq_true rfl) rfl) ?_
 refine o_val (v_nil rfl) rfl ?_
 refine o_val (v_fieldAddr V.f67_4 rfl) rfl ?_
 refine o_eff (v_store V.s4 rfl rfl rfl (by repeat first | exact .head | apply Rep.tail) (by exact Nat.le_of_ble_eq_true rfl) rfl) ?_
 refine o_nil ?_
 exact end_ok (G := [Cel b 67 [.pointer (some ⟨bl, 0, none⟩), .int .i64 sz, .int .i64 mo, .slice po no co, .bool s.last, .int .i64 0, .int .i64 (-1), .int .i64 (s.left : Int), .bool s.last, li, di, .int .i64 (s.copies : Int), .int .i64 (s.far : Int)]]) res0 ⟨rfl, rfl⟩ (sub (.cons (by repeat first | exact .head | apply Rem.tail) .nil) (by repeat first | exact .refl | apply Drop.skip))

set_option maxHeartbeats 1000000 in
set_option maxRecDepth 100000 in
theorem c_rep (b bl : Nat) (sz mo : Int) (po : Option Addr) (no co : Nat) (li di : Value) (s : InfP.St) (B : List Int) (a : Nat) (sy : Int) (pl : Option Addr) (cl : Nat) (l : List Int) (hs : 0 ≤ sy ∧ sy ≤ 18) (hl : B.length < 500000000) (hB : BitP.Byt B) (ha : a ≤ 8 * B.length) (hll : l.length < 1000000) : Ctr Try.prog 59 [.pointer (some ⟨b, 0, none⟩), .int .i64 sy, .slice pl l.length cl] [Cel b 67 [.pointer (some ⟨bl, 0, none⟩), .int .i64 sz, .int .i64 mo, .slice po no co, .bool s.ended, .int .i64 0, .int .i64 s.kind, .int .i64 (s.left : Int), .bool s.last, li, di, .int .i64 (s.copies : Int), .int .i64 (s.far : Int)], LW bl B a [] 0, Row I3 pl l.length cl l] (PostE (InfP.rep B sy l a) (fun x v G => v = .tuple #[.int .i64 x.1, .int .i64 x.2.1] ∧ G = [Cel b 67 [.pointer (some ⟨bl, 0, none⟩), .int .i64 sz, .int .i64 mo, .slice po no co, .bool s.ended, .int .i64 0, .int .i64 s.kind, .int .i64 (s.left : Int), .bool s.last, li, di, .int .i64 (s.copies : Int), .int .i64 (s.far : Int)], LW bl B x.2.2 [] 0, Row I3 pl l.length cl l]) [MX b bl sz mo]) := by
 refine spec_of [(0, _), (1, _), (2, _)] Try.func59 rfl Try.ntmps59 rfl rfl ?_
 intro w0 F
 refine w_seq ?_
 refine w_region ?_
 refine o_val (v_assign rfl) rfl ?_
 refine o_val (v_assign rfl) rfl ?_
 refine o_nil ?_
 refine thn_n ?_
 refine w_seq ?_
 refine w_seq ?_
 refine w_region ?_
 refine o_val (v_move rfl) rfl ?_
 refine o_nil ?_
 refine thn_n ?_
 refine w_block ?_
 refine w_seq ?_
 refine w_region ?_
 refine o_val (v_eql rfl rfl) rfl ?_
 refine o_val (v_assign rfl) rfl ?_
 refine o_nil ?_
 refine thn_n ?_
 first | refine w_condD rfl (fun h10 => ?_) (fun h10 => ?_) | refine w_cond rfl (fun h10 => ?_) (fun h10 => ?_)
 ·
  rcases (Nat.lt_or_ge (8 * B.length) (a + 2)) with hx | hx
  ·
   refine w_seq ?_
   have hy : sy = 16 := h10
   subst hy
   have hnb := BitP.numL_bound B a 2
   refine w_region ?_
   refine o_val (v_move rfl) rfl ?_
   refine o_val (v_nil rfl) rfl ?_
   refine o_val (v_fieldAddr V.f67_0 rfl) rfl ?_
   refine o_val (v_load V.s63 rfl (by repeat first | exact .head _ | apply List.Mem.tail) rfl) rfl ?_
   refine o_callE (c_takeE bl B a [] 0 2 hl hB (by omega) (by omega) (by omega)) V.b45 rfl (.cons (by repeat first | exact .head | apply Rem.tail) .nil) ?_
   rintro _ _ ⟨rfl, rfl⟩
   refine (thn_p (blk_p (thn_p ?_)))
   exact pe_pan (e := 2) (InfP.rep_short (by decide) (show 8 * B.length < a + 2 from hx)) PE.end_ (fold' (.cons (by repeat first | exact .head | apply Rem.tail) .nil) (by repeat first | exact .refl | apply Drop.skip) (fun w0 h hh => mx_close hh))
  ·
   refine w_seq ?_
   have hy : sy = 16 := h10
   subst hy
   have hnb := BitP.numL_bound B a 2
   refine w_region ?_
   refine o_val (v_move rfl) rfl ?_
   refine o_val (v_nil rfl) rfl ?_
   refine o_val (v_fieldAddr V.f67_0 rfl) rfl ?_
   refine o_val (v_load V.s63 rfl (by repeat first | exact .head _ | apply List.Mem.tail) rfl) rfl ?_
   refine o_call (c_take bl B a [] 0 2 hl hB (by omega) (by omega)) V.b45  rfl (.cons (by repeat first | exact .head | apply Rem.tail) .nil) rfl ?_
   rintro _ _ ⟨rfl, rfl⟩
   refine o_val (v_add rfl rfl (wrapI (by omega) (by omega))) rfl ?_
   refine o_val (v_assign rfl) rfl ?_
   refine o_nil ?_
   refine thn_n ?_
   rcases (Nat.eq_zero_or_pos l.length) with hl0 | hl0
   ·
    refine w_seq ?_
    refine w_region ?_
    refine o_val (v_move rfl) rfl ?_
    refine o_val (v_len (ty' := 0) Try.underlying30 rfl) rfl ?_
    refine o_val (v_F (v_gtr rfl rfl) (by omega)) rfl ?_
    refine o_callE (c_mustE 4) V.b47 rfl .nil ?_
    rintro _ _ ⟨rfl, rfl⟩
    refine (thn_p (blk_p (thn_p ?_)))
    exact pe_pan (e := 4) (InfP.rep_form rfl (List.length_eq_zero_iff.1 hl0) (show ¬ 8 * B.length < a + 2 from by omega)) (PE.no (by decide)) (fold' (.cons (by repeat first | exact .head | apply Rem.tail) .nil) (by repeat first | exact .refl | apply Drop.skip) (fun w0 h hh => mx_close hh))
   ·
    refine w_seq ?_
    refine w_region ?_
    refine o_val (v_move rfl) rfl ?_
    refine o_val (v_len (ty' := 0) Try.underlying30 rfl) rfl ?_
    refine o_val (v_T (v_gtr rfl rfl) (by omega)) rfl ?_
    refine o_call (c_must 4) V.b47  rfl .nil rfl ?_
    rintro _ _ ⟨rfl, rfl⟩
    refine o_nil ?_
    refine thn_n ?_
    refine w_seq ?_
    have hgl : I3.g l ((l.length : Int) - 1) = l.getD (l.length - 1) 0 := gE _ (by omega)
    refine w_region ?_
    refine o_val (v_move rfl) rfl ?_
    refine o_val (v_move rfl) rfl ?_
    refine o_val (v_len (ty' := 0) Try.underlying30 rfl) rfl ?_
    refine o_val (v_sub rfl rfl (wrapI (by omega) (by omega))) rfl ?_
    refine o_val (r_index (c := (I3)) V.sl30 rfl rfl (own (by repeat first | exact .head _ | apply List.Mem.tail)) (by omega) (by omega)) rfl ?_
    refine o_val (r_load (c := (I3)) V.s3 rfl (own (by repeat first | exact .head _ | apply List.Mem.tail)) (by omega) (by omega) rfl rfl) rfl ?_
    refine o_val (v_move rfl) rfl ?_
    refine o_val (v_assign rfl) rfl ?_
    refine o_val (v_assign rfl) rfl ?_
    refine o_nil ?_
    refine thn_n ?_
    refine w_ret ?_
    refine (blk_r (thn_r ?_))
    rw [hgl]
    exact pe_ret (x := (l.getD (l.length - 1) 0, 3 + BitP.numL B a 2, a + 2)) (InfP.rep_ok (by decide) (show ¬ 8 * B.length < a + 2 from by omega) (fun h => by rw [h.2] at hl0; simp at hl0)) (res2 rfl rfl) ⟨rfl, rfl⟩ (sub (.cons (by repeat first | exact .head | apply Rem.tail) (.cons (by repeat first | exact .head | apply Rem.tail) (.cons (by repeat first | exact .head | apply Rem.tail) .nil))) (by repeat first | exact .refl | apply Drop.skip))
 ·
  refine w_seq ?_
  refine w_region ?_
  refine o_val (v_eql rfl rfl) rfl ?_
  refine o_val (v_assign rfl) rfl ?_
  refine o_nil ?_
  refine thn_n ?_
  first | refine w_condD rfl (fun h29 => ?_) (fun h29 => ?_) | refine w_cond rfl (fun h29 => ?_) (fun h29 => ?_)
  ·
   rcases (Nat.lt_or_ge (8 * B.length) (a + 3)) with hx | hx
   ·
    refine w_seq ?_
    have hy : sy = 17 := h29
    subst hy
    have hnb := BitP.numL_bound B a 3
    refine w_region ?_
    refine o_val (v_move rfl) rfl ?_
    refine o_val (v_nil rfl) rfl ?_
    refine o_val (v_fieldAddr V.f67_0 rfl) rfl ?_
    refine o_val (v_load V.s63 rfl (by repeat first | exact .head _ | apply List.Mem.tail) rfl) rfl ?_
    refine o_callE (c_takeE bl B a [] 0 3 hl hB (by omega) (by omega) (by omega)) V.b45 rfl (.cons (by repeat first | exact .head | apply Rem.tail) .nil) ?_
    rintro _ _ ⟨rfl, rfl⟩
    refine (thn_p (blk_p (thn_p ?_)))
    exact pe_pan (e := 2) (InfP.rep_short (by decide) (show 8 * B.length < a + 3 from hx)) PE.end_ (fold' (.cons (by repeat first | exact .head | apply Rem.tail) .nil) (by repeat first | exact .refl | apply Drop.skip) (fun w0 h hh => mx_close hh))
   ·
    refine w_seq ?_
    have hy : sy = 17 := h29
    subst hy
    have hnb := BitP.numL_bound B a 3
    refine w_region ?_
    refine o_val (v_move rfl) rfl ?_
    refine o_val (v_nil rfl) rfl ?_
    refine o_val (v_fieldAddr V.f67_0 rfl) rfl ?_
    refine o_val (v_load V.s63 rfl (by repeat first | exact .head _ | apply List.Mem.tail) rfl) rfl ?_
    refine o_call (c_take bl B a [] 0 3 hl hB (by omega) (by omega)) V.b45  rfl (.cons (by repeat first | exact .head | apply Rem.tail) .nil) rfl ?_
    rintro _ _ ⟨rfl, rfl⟩
    refine o_val (v_add rfl rfl (wrapI (by omega) (by omega))) rfl ?_
    refine o_val (v_assign rfl) rfl ?_
    refine o_val (v_assign rfl) rfl ?_
    refine o_nil ?_
    refine thn_n ?_
    refine w_ret ?_
    refine (blk_r (thn_r ?_))
    exact pe_ret (x := (0, 3 + BitP.numL B a 3, a + 3)) (InfP.rep_ok (by decide) (show ¬ 8 * B.length < a + 3 from by omega) (fun h => absurd h.1 (by decide))) (res2 rfl rfl) ⟨rfl, rfl⟩ (sub (.cons (by repeat first | exact .head | apply Rem.tail) (.cons (by repeat first | exact .head | apply Rem.tail) (.cons (by repeat first | exact .head | apply Rem.tail) .nil))) (by repeat first | exact .refl | apply Drop.skip))
  ·
   refine w_seq ?_
   refine w_region ?_
   refine o_val (v_eql rfl rfl) rfl ?_
   refine o_val (v_assign rfl) rfl ?_
   refine o_nil ?_
   refine thn_n ?_
   first | refine w_condD rfl (fun h37 => ?_) (fun h37 => ?_) | refine w_cond rfl (fun h37 => ?_) (fun h37 => ?_)
   ·
    rcases (Nat.lt_or_ge (8 * B.length) (a + 7)) with hx | hx
    ·
     refine w_seq ?_
     have hy : sy = 18 := h37
     subst hy
     have hnb := BitP.numL_bound B a 7
     refine w_region ?_
     refine o_val (v_move rfl) rfl ?_
     refine o_val (v_nil rfl) rfl ?_
     refine o_val (v_fieldAddr V.f67_0 rfl) rfl ?_
     refine o_val (v_load V.s63 rfl (by repeat first | exact .head _ | apply List.Mem.tail) rfl) rfl ?_
     refine o_callE (c_takeE bl B a [] 0 7 hl hB (by omega) (by omega) (by omega)) V.b45 rfl (.cons (by repeat first | exact .head | apply Rem.tail) .nil) ?_
     rintro _ _ ⟨rfl, rfl⟩
     refine (thn_p (blk_p (thn_p ?_)))
     exact pe_pan (e := 2) (InfP.rep_short (by decide) (show 8 * B.length < a + 7 from hx)) PE.end_ (fold' (.cons (by repeat first | exact .head | apply Rem.tail) .nil) (by repeat first | exact .refl | apply Drop.skip) (fun w0 h hh => mx_close hh))
    ·
     refine w_seq ?_
     have hy : sy = 18 := h37
     subst hy
     have hnb := BitP.numL_bound B a 7
     refine w_region ?_
     refine o_val (v_move rfl) rfl ?_
     refine o_val (v_nil rfl) rfl ?_
     refine o_val (v_fieldAddr V.f67_0 rfl) rfl ?_
     refine o_val (v_load V.s63 rfl (by repeat first | exact .head _ | apply List.Mem.tail) rfl) rfl ?_
     refine o_call (c_take bl B a [] 0 7 hl hB (by omega) (by omega)) V.b45  rfl (.cons (by repeat first | exact .head | apply Rem.tail) .nil) rfl ?_
     rintro _ _ ⟨rfl, rfl⟩
     refine o_val (v_add rfl rfl (wrapI (by omega) (by omega))) rfl ?_
     refine o_val (v_assign rfl) rfl ?_
     refine o_val (v_assign rfl) rfl ?_
     refine o_nil ?_
     refine thn_n ?_
     refine w_ret ?_
     refine (blk_r (thn_r ?_))
     exact pe_ret (x := (0, 11 + BitP.numL B a 7, a + 7)) (InfP.rep_ok (by decide) (show ¬ 8 * B.length < a + 7 from by omega) (fun h => absurd h.1 (by decide))) (res2 rfl rfl) ⟨rfl, rfl⟩ (sub (.cons (by repeat first | exact .head | apply Rem.tail) (.cons (by repeat first | exact .head | apply Rem.tail) (.cons (by repeat first | exact .head | apply Rem.tail) .nil))) (by repeat first | exact .refl | apply Drop.skip))
   ·
    refine w_skip ?_
    refine blk_n ?_
    refine thn_n ?_
    refine w_seq ?_
    refine w_region ?_
    refine o_val (v_move rfl) rfl ?_
    refine o_val (v_assign rfl) rfl ?_
    refine o_val (v_assign rfl) rfl ?_
    refine o_nil ?_
    refine thn_n ?_
    refine w_ret ?_
    exact pe_ret (x := (sy, 1, a)) (InfP.rep_lt (by omega)) (res2 rfl rfl) ⟨rfl, rfl⟩ (sub (.cons (by repeat first | exact .head | apply Rem.tail) (.cons (by repeat first | exact .head | apply Rem.tail) (.cons (by repeat first | exact .head | apply Rem.tail) .nil))) (by repeat first | exact .refl | apply Drop.skip))
end Go.Proofs.Ytoplcgkafaoafaa

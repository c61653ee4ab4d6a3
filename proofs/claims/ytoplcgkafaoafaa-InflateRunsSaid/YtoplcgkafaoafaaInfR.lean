/-
 Steps of the proof: walks of functions that the statement reaches; printed by a program of ours.
-/
import Derived.Test.YtoplcgkafaoafaaM40
import Derived.Test.YtoplcgkafaoafaaM38
namespace Go.Proofs.Ytoplcgkafaoafaa
open Go.Sl 
set_option linter.unusedVariables false
set_option linter.unusedSimpArgs false

attribute [local irreducible] HuffP.newE HuffP.tk HuffP.ord HuffP.cntL HuffP.words HuffP.mostL InfP.frs InfP.toldC InfP.toldN InfP.toldA InfP.hL InfP.hD InfP.hC InfP.lnGo InfP.told InfP.fixL InfP.codeE InfP.rep InfP.lenE InfP.awayE InfP.sym InfP.alg BitP.numL InfP.coded InfP.begin_

set_option maxHeartbeats 2000000 in
set_option maxRecDepth 100000 in
theorem c_length (b bl : Nat) (sz mo : Int) (po : Option Addr) (no co : Nat) (li di : Value) (s : InfP.St) (B : List Int) (a : Nat) (sy : Int) (h0 : 0 ≤ sy ∧ sy < 1000) (hl : B.length < 500000000) (hB : BitP.Byt B) (ha : a ≤ 8 * B.length) : Ctr Try.prog 52 [.pointer (some ⟨b, 0, none⟩), .int .i64 sy] [Cel b 67 [.pointer (some ⟨bl, 0, none⟩), .int .i64 sz, .int .i64 mo, .slice po no co, .bool s.ended, .int .i64 0, .int .i64 s.kind, .int .i64 (s.left : Int), .bool s.last, li, di, .int .i64 (s.copies : Int), .int .i64 (s.far : Int)], LW bl B a [] 0] (PostE (InfP.lenE B sy a) (fun x v G => v = .int .i64 x.1 ∧ G = [Cel b 67 [.pointer (some ⟨bl, 0, none⟩), .int .i64 sz, .int .i64 mo, .slice po no co, .bool s.ended, .int .i64 0, .int .i64 s.kind, .int .i64 (s.left : Int), .bool s.last, li, di, .int .i64 (s.copies : Int), .int .i64 (s.far : Int)], LW bl B x.2 [] 0]) [MX b bl sz mo]) := by
 refine spec_of [(0, _), (1, _)] Try.func52 rfl Try.ntmps52 rfl rfl ?_
 intro w0 F
 refine w_seq ?_
 refine w_region ?_
 refine o_val (v_assign rfl) rfl ?_
 refine o_nil ?_
 refine thn_n ?_
 rcases (Classical.em (sy < 29)) with hq | hq
 ·
  refine w_seq ?_
  refine w_region ?_
  refine o_val (v_move rfl) rfl ?_
  refine o_val (v_T (v_lss rfl rfl) hq) rfl ?_
  refine o_call (c_must 4) V.b47  rfl .nil rfl ?_
  rintro _ _ ⟨rfl, rfl⟩
  refine o_nil ?_
  refine thn_n ?_
  refine w_seq ?_
  refine w_block ?_
  refine w_seq ?_
  refine w_region ?_
  refine o_val (v_move rfl) rfl ?_
  refine o_val (v_lss rfl rfl) rfl ?_
  refine o_val (v_assign rfl) rfl ?_
  refine o_nil ?_
  refine thn_n ?_
  first | refine w_condD rfl (fun h9 => ?_) (fun h9 => ?_) | refine w_cond rfl (fun h9 => ?_) (fun h9 => ?_)
  ·
   refine w_seq ?_
   refine w_region ?_
   refine o_val (v_move rfl) rfl ?_
   refine o_val (v_add rfl rfl (wrapI (by omega) (by omega))) rfl ?_
   refine o_val (v_assign rfl) rfl ?_
   refine o_nil ?_
   refine thn_n ?_
   refine w_ret ?_
   refine (blk_r (thn_r ?_))
   exact pe_ret (x := (3 + sy, a)) (InfP.len_few h0.1 (by omega) ha) (res1 rfl) ⟨rfl, rfl⟩ (sub (.cons (by repeat first | exact .head | apply Rem.tail) (.cons (by repeat first | exact .head | apply Rem.tail) .nil)) (by repeat first | exact .refl | apply Drop.skip))
  ·
   refine w_seq ?_
   refine w_region ?_
   refine o_val (v_move rfl) rfl ?_
   refine o_val (v_eql rfl rfl) rfl ?_
   refine o_val (v_assign rfl) rfl ?_
   refine o_nil ?_
   refine thn_n ?_
   first | refine w_condD rfl (fun h14 => ?_) (fun h14 => ?_) | refine w_cond rfl (fun h14 => ?_) (fun h14 => ?_)
   ·
    refine w_seq ?_
    refine w_region ?_
    refine o_val (v_assign rfl) rfl ?_
    refine o_nil ?_
    refine thn_n ?_
    refine w_ret ?_
    refine (blk_r (thn_r ?_))
    exact pe_ret (x := (258, a)) (InfP.len_top (by omega) ha) (res1 rfl) ⟨rfl, rfl⟩ (sub (.cons (by repeat first | exact .head | apply Rem.tail) (.cons (by repeat first | exact .head | apply Rem.tail) .nil)) (by repeat first | exact .refl | apply Drop.skip))
   ·
    refine w_skip ?_
    refine blk_n ?_
    refine thn_n ?_
    refine w_seq ?_
    refine w_region ?_
    refine o_val (v_move rfl) rfl ?_
    refine o_val (v_quo rfl rfl (by omega) (quoI (by omega) (by omega) (by omega))) rfl ?_
    refine o_val (v_sub rfl rfl (wrapI (by omega) (by omega))) rfl ?_
    refine o_val (v_assign rfl) rfl ?_
    refine o_nil ?_
    refine thn_n ?_
    rcases (Nat.lt_or_ge (8 * B.length) (a + (InfP.lnK sy))) with hx | hx
    ·
     refine w_seq ?_
     obtain ⟨hk1, hk2, hk3⟩ := InfP.lnK_le (s := sy) (by omega) (by omega)
     have hsh := InfP.shl_small (x := 4 + sy % 4) (n := InfP.lnK sy) (by omega) (by omega) (by omega) rfl
     have hnb := BitP.numL_bound B a (InfP.lnK sy)
     have hnc := BitP.pow24 (show InfP.lnK sy ≤ 24 by omega)
     rw [hk1]
     refine w_net [⟨[], [], [1], 0, 0⟩, ⟨[0], [0], [], 0, 0⟩, ⟨[0, 1], [1], [], 0, 0⟩, ⟨[], [], [5], 0, 0⟩, ⟨[0, 1, 2, 3], [2, 3], [], 0, 0⟩, ⟨[0, 1, 2, 3, 4], [4], [], 0, 0⟩, ⟨[], [], [0], 0, 0⟩, ⟨[6], [6], [], 0, 0⟩, ⟨[6, 7], [7], [], 0, 0⟩, ⟨[6, 7, 8], [8], [], 0, 0⟩, ⟨[], [], [5], 0, 0⟩, ⟨[6, 7, 8, 9, 10], [9, 10], [], 0, 0⟩, ⟨[0, 1, 2, 3, 4, 5, 6, 7, 8, 9, 10, 11], [5, 11], [], 0, 0⟩, ⟨[0, 1, 2, 3, 4, 5, 6, 7, 8, 9, 10, 11, 12], [12], [], 0, 0⟩] [⟨fun y => Cel b 67 [.pointer (some ⟨bl, 0, none⟩), .int .i64 sz, .int .i64 mo, .slice po no co, .bool s.ended, .int .i64 0, .int .i64 s.kind, .int .i64 (s.left : Int), .bool s.last, li, di, .int .i64 (s.copies : Int), .int .i64 (s.far : Int)], none, none, [9, 11]⟩, ⟨fun y => LW bl B a [] 0, none, none, [11]⟩] F V.mixed (by kernel_rfl) rfl (fun _ => .refl _) (locT_0 _ (locT_0 _ locT_nil)) ?_
     refine net_pure (fun y => [(1, _)]) (fun y => rfl) rfl rfl rfl (fun y hA L => st_v (v_move rfl) ⟨rfl, rfl⟩) (by intros; rfl) (by intro y y2 h; rfl) ?_
     refine net_pure (fun y => [(20, _)]) (fun y => rfl) rfl rfl rfl (fun y hA L => st_v (v_rem rfl rfl (by omega) (remI (by omega))) ⟨rfl, rfl⟩) (by intros; rfl) (by intro y y2 h; rfl) ?_
     refine net_pure (fun y => [(21, _)]) (fun y => rfl) rfl rfl rfl (fun y hA L => st_v (v_add rfl rfl (wrapI (by omega) (by omega))) ⟨rfl, rfl⟩) (by intros; rfl) (by intro y y2 h; rfl) ?_
     refine net_pure (fun y => [(5, _)]) (fun y => rfl) rfl rfl rfl (fun y hA L => st_v (v_move rfl) ⟨rfl, rfl⟩) (by intros; rfl) (by intro y y2 h; rfl) ?_
     refine net_pure (fun y => [(22, _), (23, _)]) (fun y => rfl) rfl rfl rfl (fun y hA L => st_v (v_shl (r := (4 + sy % 4) * 2 ^ InfP.lnK sy) rfl rfl (by omega) hsh.1) ⟨rfl, rfl⟩) (by intros; rfl) (by intro y y2 h; rfl) ?_
     refine net_pure (fun y => [(24, _)]) (fun y => rfl) rfl rfl rfl (fun y hA L => st_v (v_add rfl rfl (wrapI (by omega) (by omega))) ⟨rfl, rfl⟩) (by intros; rfl) (by intro y y2 h; rfl) ?_
     refine net_pure (fun y => [(0, _)]) (fun y => rfl) rfl rfl rfl (fun y hA L => st_v (v_move rfl) ⟨rfl, rfl⟩) (by intros; rfl) (by intro y y2 h; rfl) ?_
     refine net_pure (fun y => [(26, _)]) (fun y => rfl) rfl rfl rfl (fun y hA L => st_v (v_nil rfl) ⟨rfl, rfl⟩) (by intros; rfl) (by intro y y2 h; rfl) ?_
     refine net_pure (fun y => [(27, _)]) (fun y => rfl) rfl rfl rfl (fun y hA L => st_v (v_fieldAddr V.f67_0 rfl) ⟨rfl, rfl⟩) (by intros; rfl) (by intro y y2 h; rfl) ?_
     refine net_read (fun y => [Cel b 67 [.pointer (some ⟨bl, 0, none⟩), .int .i64 sz, .int .i64 mo, .slice po no co, .bool s.ended, .int .i64 0, .int .i64 s.kind, .int .i64 (s.left : Int), .bool s.last, li, di, .int .i64 (s.copies : Int), .int .i64 (s.far : Int)]]) (fun y => [(28, _)]) (fun y => rfl) rfl (fun y => rfl) rfl (fun y FF hA => st_v (v_load V.s63 rfl (by repeat first | exact .head _ | apply List.Mem.tail) rfl) ⟨rfl, rfl⟩) (by intros; rfl) (by intro y y2 h; rfl) ?_
     refine net_pure (fun y => [(5, _)]) (fun y => rfl) rfl rfl rfl (fun y hA L => st_v (v_move rfl) ⟨rfl, rfl⟩) (by intros; rfl) (by intro y y2 h; rfl) ?_
     refine net_pan (undef) (fun y => [Cel b 67 [.pointer (some ⟨bl, 0, none⟩), .int .i64 sz, .int .i64 mo, .slice po no co, .bool s.ended, .int .i64 0, .int .i64 s.kind, .int .i64 (s.left : Int), .bool s.last, li, di, .int .i64 (s.copies : Int), .int .i64 (s.far : Int)], LW bl B a [] 0]) (fun y => [(29, _), (30, _)]) (fun y => rfl) rfl (fun y => rfl) (fun y FF hA => st_callE (c_takeE bl B a [] 0 (InfP.lnK sy) hl hB (by omega) (by omega) (by omega)) V.b45 rfl (.cons (by repeat first | exact .head | apply Rem.tail) .nil) (by rintro _ _ ⟨rfl, rfl⟩; exact x_pe (InfP.len_short (by omega) (by omega) hx) PE.end_ (fold' (.cons (by repeat first | exact .head | apply Rem.tail) .nil) (by first | exact dp0 (M := FF) (F := F) | exact dp1 (M := FF) (F := F) | exact dp2 (M := FF) (F := F) | exact dp3 (M := FF) (F := F) | exact dp4 (M := FF) (F := F) | exact dp5 (M := FF) (F := F) | exact dp6 (M := FF) (F := F) | exact dp7 (M := FF) (F := F) | exact dp8 (M := FF) (F := F) | exact dp9 (M := FF) (F := F)) (fun w0 h hh => mx_close hh)))) ?_
     refine net_pan (.bool true) (fun y => []) (fun y => [(25, _), (31, _)]) (fun y => rfl) rfl (fun y => rfl) (fun y FF hA => (KnN.fact (hA 11 (by decide)) (q := fun _ => False) rfl).elim) ?_
     refine net_pan (.bool true) (fun y => []) (fun y => [(32, _)]) (fun y => rfl) rfl (fun y => rfl) (fun y FF hA => (KnN.fact (hA 11 (by decide)) (q := fun _ => False) rfl).elim) ?_
     refine net_nil ?_
     intro y hA
     exact (KnN.fact (hA 11 (by exact Nat.le_of_ble_eq_true rfl)) (q := fun _ => False) rfl).elim
    ·
     refine w_seq ?_
     obtain ⟨hk1, hk2, hk3⟩ := InfP.lnK_le (s := sy) (by omega) (by omega)
     have hsh := InfP.shl_small (x := 4 + sy % 4) (n := InfP.lnK sy) (by omega) (by omega) (by omega) rfl
     have hnb := BitP.numL_bound B a (InfP.lnK sy)
     have hnc := BitP.pow24 (show InfP.lnK sy ≤ 24 by omega)
     rw [hk1]
     refine w_net [⟨[], [], [1], 0, 0⟩, ⟨[0], [0], [], 0, 0⟩, ⟨[0, 1], [1], [], 0, 0⟩, ⟨[], [], [5], 0, 0⟩, ⟨[0, 1, 2, 3], [2, 3], [], 0, 0⟩, ⟨[0, 1, 2, 3, 4], [4], [], 0, 0⟩, ⟨[], [], [0], 0, 0⟩, ⟨[6], [6], [], 0, 0⟩, ⟨[6, 7], [7], [], 0, 0⟩, ⟨[6, 7, 8], [8], [], 0, 0⟩, ⟨[], [], [5], 0, 0⟩, ⟨[6, 7, 8, 9, 10], [9, 10], [], 0, 0⟩, ⟨[0, 1, 2, 3, 4, 5, 6, 7, 8, 9, 10, 11], [5, 11], [], 0, 0⟩, ⟨[0, 1, 2, 3, 4, 5, 6, 7, 8, 9, 10, 11, 12], [12], [], 0, 0⟩] [⟨fun y => Cel b 67 [.pointer (some ⟨bl, 0, none⟩), .int .i64 sz, .int .i64 mo, .slice po no co, .bool s.ended, .int .i64 0, .int .i64 s.kind, .int .i64 (s.left : Int), .bool s.last, li, di, .int .i64 (s.copies : Int), .int .i64 (s.far : Int)], none, none, [9]⟩, ⟨fun y => LW bl B a [] 0, none, some 11, []⟩, ⟨fun y => LW bl B (a + (InfP.lnK sy)) [] 0, some 11, none, []⟩] F V.mixed (by kernel_rfl) rfl (fun _ => .refl _) (locT_0 _ (locT_0 _ (locT_1 [6, 7, 8, 9, 10] rfl (by intro y y2 h; rfl) locT_nil))) ?_
     refine net_pure (fun y => [(1, _)]) (fun y => rfl) rfl rfl rfl (fun y hA L => st_v (v_move rfl) ⟨rfl, rfl⟩) (by intros; rfl) (by intro y y2 h; rfl) ?_
     refine net_pure (fun y => [(20, _)]) (fun y => rfl) rfl rfl rfl (fun y hA L => st_v (v_rem rfl rfl (by omega) (remI (by omega))) ⟨rfl, rfl⟩) (by intros; rfl) (by intro y y2 h; rfl) ?_
     refine net_pure (fun y => [(21, _)]) (fun y => rfl) rfl rfl rfl (fun y hA L => st_v (v_add rfl rfl (wrapI (by omega) (by omega))) ⟨rfl, rfl⟩) (by intros; rfl) (by intro y y2 h; rfl) ?_
     refine net_pure (fun y => [(5, _)]) (fun y => rfl) rfl rfl rfl (fun y hA L => st_v (v_move rfl) ⟨rfl, rfl⟩) (by intros; rfl) (by intro y y2 h; rfl) ?_
     refine net_pure (fun y => [(22, _), (23, _)]) (fun y => rfl) rfl rfl rfl (fun y hA L => st_v (v_shl (r := (4 + sy % 4) * 2 ^ InfP.lnK sy) rfl rfl (by omega) hsh.1) ⟨rfl, rfl⟩) (by intros; rfl) (by intro y y2 h; rfl) ?_
     refine net_pure (fun y => [(24, _)]) (fun y => rfl) rfl rfl rfl (fun y hA L => st_v (v_add rfl rfl (wrapI (by omega) (by omega))) ⟨rfl, rfl⟩) (by intros; rfl) (by intro y y2 h; rfl) ?_
     refine net_pure (fun y => [(0, _)]) (fun y => rfl) rfl rfl rfl (fun y hA L => st_v (v_move rfl) ⟨rfl, rfl⟩) (by intros; rfl) (by intro y y2 h; rfl) ?_
     refine net_pure (fun y => [(26, _)]) (fun y => rfl) rfl rfl rfl (fun y hA L => st_v (v_nil rfl) ⟨rfl, rfl⟩) (by intros; rfl) (by intro y y2 h; rfl) ?_
     refine net_pure (fun y => [(27, _)]) (fun y => rfl) rfl rfl rfl (fun y hA L => st_v (v_fieldAddr V.f67_0 rfl) ⟨rfl, rfl⟩) (by intros; rfl) (by intro y y2 h; rfl) ?_
     refine net_read (fun y => [Cel b 67 [.pointer (some ⟨bl, 0, none⟩), .int .i64 sz, .int .i64 mo, .slice po no co, .bool s.ended, .int .i64 0, .int .i64 s.kind, .int .i64 (s.left : Int), .bool s.last, li, di, .int .i64 (s.copies : Int), .int .i64 (s.far : Int)]]) (fun y => [(28, _)]) (fun y => rfl) rfl (fun y => rfl) rfl (fun y FF hA => st_v (v_load V.s63 rfl (by repeat first | exact .head _ | apply List.Mem.tail) rfl) ⟨rfl, rfl⟩) (by intros; rfl) (by intro y y2 h; rfl) ?_
     refine net_pure (fun y => [(5, _)]) (fun y => rfl) rfl rfl rfl (fun y hA L => st_v (v_move rfl) ⟨rfl, rfl⟩) (by intros; rfl) (by intro y y2 h; rfl) ?_
     refine net_eff (fun y => [LW bl B a [] 0]) (fun y => []) (fun y => [LW bl B (a + (InfP.lnK sy)) [] 0]) (fun y => [(29, _), (30, _)]) (fun y => rfl) (fun y => rfl) (fun y => rfl) (fun y => rfl) (fun y FF hA => st_callN (Post := [LW bl B (a + (InfP.lnK sy)) [] 0]) (c_take bl B a [] 0 (InfP.lnK sy) hl hB (by omega) (by omega)) V.b45 rfl (.cons (by repeat first | exact .head | apply Rem.tail) .nil) (fun v G h => by rcases h with ⟨rfl, rfl⟩; exact ⟨rfl, .refl _⟩)) (by intros; rfl) (by intros; rfl) (by intro y y2 h; rfl) ?_
     refine net_pure (fun y => [(25, _), (31, _)]) (fun y => rfl) rfl rfl rfl (fun y hA L => st_v (v_add rfl rfl (wrapI (by omega) (by omega))) ⟨rfl, rfl⟩) (by intros; rfl) (by intro y y2 h; rfl) ?_
     refine net_pure (fun y => [(32, _)]) (fun y => rfl) rfl rfl rfl (fun y hA L => st_v (v_assign rfl) ⟨rfl, rfl⟩) (by intros; rfl) (by intro y y2 h; rfl) ?_
     refine net_nil ?_
     intro y hA
     clear hA
     refine thn_n ?_
     refine w_keep _ (.cons (d := 4) rfl (.nil _)) ?_
     refine w_sub (M := Cel b 67 [.pointer (some ⟨bl, 0, none⟩), .int .i64 sz, .int .i64 mo, .slice po no co, .bool s.ended, .int .i64 0, .int .i64 s.kind, .int .i64 (s.left : Int), .bool s.last, li, di, .int .i64 (s.copies : Int), .int .i64 (s.far : Int)] :: LW bl B (a + (InfP.lnK sy)) [] 0 :: F) (fun _ _ h => h) ?_
     refine w_ret ?_
     exact pe_ret (x := (3 + (4 + sy % 4) * 2 ^ InfP.lnK sy + BitP.numL B a (InfP.lnK sy), a + InfP.lnK sy)) (InfP.len_ok (by omega) (by omega) hx) (res1 rfl) ⟨rfl, rfl⟩ (sub (.cons (by repeat first | exact .head | apply Rem.tail) (.cons (by repeat first | exact .head | apply Rem.tail) .nil)) (by repeat first | exact .refl | apply Drop.skip))
 ·
  refine w_seq ?_
  refine w_region ?_
  refine o_val (v_move rfl) rfl ?_
  refine o_val (v_F (v_lss rfl rfl) hq) rfl ?_
  refine o_callE (c_mustE 4) V.b47 rfl .nil ?_
  rintro _ _ ⟨rfl, rfl⟩
  refine (thn_p ?_)
  exact pe_pan (InfP.len_no (by omega)) (PE.no (by decide)) (fold' (.cons (by repeat first | exact .head | apply Rem.tail) .nil) (by repeat first | exact .refl | apply Drop.skip) (fun w0 h hh => mx_close hh))

set_option maxHeartbeats 2000000 in
set_option maxRecDepth 100000 in
theorem c_away (b bl : Nat) (sz mo : Int) (po : Option Addr) (no co : Nat) (li : Value) (dd : Nat) (s : InfP.St) (B ds : List Int) (a : Nat) (hE : HuffP.newE ds = 0) (hd : 0 < ds.length) (hl : B.length < 500000000) (hB : BitP.Byt B) (ha : a ≤ 8 * B.length) : Ctr Try.prog 53 [.pointer (some ⟨b, 0, none⟩)] [Cel b 67 [.pointer (some ⟨bl, 0, none⟩), .int .i64 sz, .int .i64 mo, .slice po no co, .bool s.ended, .int .i64 0, .int .i64 s.kind, .int .i64 (s.left : Int), .bool s.last, li, (.pointer (some ⟨dd, 0, none⟩)), .int .i64 (s.copies : Int), .int .i64 (s.far : Int)], HC dd ds, LW bl B a [] 0] (PostE (InfP.awayE B ds a) (fun x v G => v = .int .i64 x.1 ∧ G = [Cel b 67 [.pointer (some ⟨bl, 0, none⟩), .int .i64 sz, .int .i64 mo, .slice po no co, .bool s.ended, .int .i64 0, .int .i64 s.kind, .int .i64 (s.left : Int), .bool s.last, li, (.pointer (some ⟨dd, 0, none⟩)), .int .i64 (s.copies : Int), .int .i64 (s.far : Int)], HC dd ds, LW bl B x.2 [] 0]) [MX b bl sz mo]) := by
 refine spec_of [(0, _)] Try.func53 rfl Try.ntmps53 rfl rfl ?_
 intro w0 F
 have hdl := InfP.code_len hE
 refine w_seq ?_
 refine w_region ?_
 refine o_val (v_assign rfl) rfl ?_
 refine o_nil ?_
 refine thn_n ?_
 rcases (InfP.sym_or (B := B) (ls := ds) (a := a) hE hd) with ⟨e, hs⟩ | ⟨sy, a3, hs, h0, h1, h2, h3⟩
 ·
  refine w_seq ?_
  refine w_net [⟨[], [], [0], 0, 0⟩, ⟨[0], [0], [], 0, 0⟩, ⟨[0, 1], [1], [], 0, 0⟩, ⟨[0, 1, 2], [2], [], 0, 0⟩, ⟨[], [], [0], 0, 0⟩, ⟨[4], [4], [], 0, 0⟩, ⟨[4, 5], [5], [], 0, 0⟩, ⟨[4, 5, 6], [6], [], 0, 0⟩, ⟨[0, 1, 2, 3, 4, 5, 6, 7], [3, 7], [], 0, 0⟩, ⟨[0, 1, 2, 3, 4, 5, 6, 7, 8], [8], [], 0, 0⟩] [⟨fun y => Cel b 67 [.pointer (some ⟨bl, 0, none⟩), .int .i64 sz, .int .i64 mo, .slice po no co, .bool s.ended, .int .i64 0, .int .i64 s.kind, .int .i64 (s.left : Int), .bool s.last, li, (.pointer (some ⟨dd, 0, none⟩)), .int .i64 (s.copies : Int), .int .i64 (s.far : Int)], none, none, [3, 7, 8]⟩, ⟨fun y => HC dd ds, none, none, [8]⟩, ⟨fun y => LW bl B a [] 0, none, none, [8]⟩] F V.mixed (by kernel_rfl) rfl (fun _ => .refl _) (locT_0 _ (locT_0 _ (locT_0 _ locT_nil))) ?_
  refine net_pure (fun y => [(0, _)]) (fun y => rfl) rfl rfl rfl (fun y hA L => st_v (v_move rfl) ⟨rfl, rfl⟩) (by intros; rfl) (by intro y y2 h; rfl) ?_
  refine net_pure (fun y => [(5, _)]) (fun y => rfl) rfl rfl rfl (fun y hA L => st_v (v_nil rfl) ⟨rfl, rfl⟩) (by intros; rfl) (by intro y y2 h; rfl) ?_
  refine net_pure (fun y => [(6, _)]) (fun y => rfl) rfl rfl rfl (fun y hA L => st_v (v_fieldAddr V.f67_10 rfl) ⟨rfl, rfl⟩) (by intros; rfl) (by intro y y2 h; rfl) ?_
  refine net_read (fun y => [Cel b 67 [.pointer (some ⟨bl, 0, none⟩), .int .i64 sz, .int .i64 mo, .slice po no co, .bool s.ended, .int .i64 0, .int .i64 s.kind, .int .i64 (s.left : Int), .bool s.last, li, (.pointer (some ⟨dd, 0, none⟩)), .int .i64 (s.copies : Int), .int .i64 (s.far : Int)]]) (fun y => [(7, _)]) (fun y => rfl) rfl (fun y => rfl) rfl (fun y FF hA => st_v (v_load V.s65 rfl (by repeat first | exact .head _ | apply List.Mem.tail) rfl) ⟨rfl, rfl⟩) (by intros; rfl) (by intro y y2 h; rfl) ?_
  refine net_pure (fun y => [(0, _)]) (fun y => rfl) rfl rfl rfl (fun y hA L => st_v (v_move rfl) ⟨rfl, rfl⟩) (by intros; rfl) (by intro y y2 h; rfl) ?_
  refine net_pure (fun y => [(9, _)]) (fun y => rfl) rfl rfl rfl (fun y hA L => st_v (v_nil rfl) ⟨rfl, rfl⟩) (by intros; rfl) (by intro y y2 h; rfl) ?_
  refine net_pure (fun y => [(10, _)]) (fun y => rfl) rfl rfl rfl (fun y hA L => st_v (v_fieldAddr V.f67_0 rfl) ⟨rfl, rfl⟩) (by intros; rfl) (by intro y y2 h; rfl) ?_
  refine net_read (fun y => [Cel b 67 [.pointer (some ⟨bl, 0, none⟩), .int .i64 sz, .int .i64 mo, .slice po no co, .bool s.ended, .int .i64 0, .int .i64 s.kind, .int .i64 (s.left : Int), .bool s.last, li, (.pointer (some ⟨dd, 0, none⟩)), .int .i64 (s.copies : Int), .int .i64 (s.far : Int)]]) (fun y => [(11, _)]) (fun y => rfl) rfl (fun y => rfl) rfl (fun y FF hA => st_v (v_load V.s63 rfl (by repeat first | exact .head _ | apply List.Mem.tail) rfl) ⟨rfl, rfl⟩) (by intros; rfl) (by intro y y2 h; rfl) ?_
  refine net_pan (undef) (fun y => [Cel b 67 [.pointer (some ⟨bl, 0, none⟩), .int .i64 sz, .int .i64 mo, .slice po no co, .bool s.ended, .int .i64 0, .int .i64 s.kind, .int .i64 (s.left : Int), .bool s.last, li, (.pointer (some ⟨dd, 0, none⟩)), .int .i64 (s.copies : Int), .int .i64 (s.far : Int)], HC dd ds, LW bl B a [] 0]) (fun y => [(8, _), (12, _)]) (fun y => rfl) rfl (fun y => rfl) (fun y FF hA => st_callE ((c_sym dd ds bl B a [] 0 hE hl hB ha).err hs) V.b51 rfl (.cons (by repeat first | exact .head | apply Rem.tail) (.cons (by repeat first | exact .head | apply Rem.tail) .nil)) (by rintro _ _ ⟨hp, rfl⟩; exact x_pe (InfP.away_e hs) hp (fold' (.cons (by repeat first | exact .head | apply Rem.tail) .nil) (by first | exact dp0 (M := FF) (F := F) | exact dp1 (M := FF) (F := F) | exact dp2 (M := FF) (F := F) | exact dp3 (M := FF) (F := F) | exact dp4 (M := FF) (F := F) | exact dp5 (M := FF) (F := F) | exact dp6 (M := FF) (F := F) | exact dp7 (M := FF) (F := F) | exact dp8 (M := FF) (F := F) | exact dp9 (M := FF) (F := F)) (fun w0 h hh => mx_close hh)))) ?_
  refine net_pan (.bool true) (fun y => []) (fun y => [(13, _)]) (fun y => rfl) rfl (fun y => rfl) (fun y FF hA => (KnN.fact (hA 8 (by decide)) (q := fun _ => False) rfl).elim) ?_
  refine net_nil ?_
  intro y hA
  exact (KnN.fact (hA 8 (by exact Nat.le_of_ble_eq_true rfl)) (q := fun _ => False) rfl).elim
 ·
  refine w_seq ?_
  refine w_net [⟨[], [], [0], 0, 0⟩, ⟨[0], [0], [], 0, 0⟩, ⟨[0, 1], [1], [], 0, 0⟩, ⟨[0, 1, 2], [2], [], 0, 0⟩, ⟨[], [], [0], 0, 0⟩, ⟨[4], [4], [], 0, 0⟩, ⟨[4, 5], [5], [], 0, 0⟩, ⟨[4, 5, 6], [6], [], 0, 0⟩, ⟨[0, 1, 2, 3, 4, 5, 6, 7], [3, 7], [], 0, 0⟩, ⟨[0, 1, 2, 3, 4, 5, 6, 7, 8], [8], [], 0, 0⟩] [⟨fun y => Cel b 67 [.pointer (some ⟨bl, 0, none⟩), .int .i64 sz, .int .i64 mo, .slice po no co, .bool s.ended, .int .i64 0, .int .i64 s.kind, .int .i64 (s.left : Int), .bool s.last, li, (.pointer (some ⟨dd, 0, none⟩)), .int .i64 (s.copies : Int), .int .i64 (s.far : Int)], none, none, [3, 7]⟩, ⟨fun y => HC dd ds, none, some 8, []⟩, ⟨fun y => LW bl B a [] 0, none, some 8, []⟩, ⟨fun y => HC dd ds, some 8, none, []⟩, ⟨fun y => LW bl B a3 [] 0, some 8, none, []⟩] F V.mixed (by kernel_rfl) rfl (fun _ => .refl _) (locT_0 _ (locT_0 _ (locT_0 _ (locT_1 [0, 1, 2, 3, 4, 5, 6, 7] rfl (by intro y y2 h; rfl) (locT_1 [0, 1, 2, 3, 4, 5, 6, 7] rfl (by intro y y2 h; rfl) locT_nil))))) ?_
  refine net_pure (fun y => [(0, _)]) (fun y => rfl) rfl rfl rfl (fun y hA L => st_v (v_move rfl) ⟨rfl, rfl⟩) (by intros; rfl) (by intro y y2 h; rfl) ?_
  refine net_pure (fun y => [(5, _)]) (fun y => rfl) rfl rfl rfl (fun y hA L => st_v (v_nil rfl) ⟨rfl, rfl⟩) (by intros; rfl) (by intro y y2 h; rfl) ?_
  refine net_pure (fun y => [(6, _)]) (fun y => rfl) rfl rfl rfl (fun y hA L => st_v (v_fieldAddr V.f67_10 rfl) ⟨rfl, rfl⟩) (by intros; rfl) (by intro y y2 h; rfl) ?_
  refine net_read (fun y => [Cel b 67 [.pointer (some ⟨bl, 0, none⟩), .int .i64 sz, .int .i64 mo, .slice po no co, .bool s.ended, .int .i64 0, .int .i64 s.kind, .int .i64 (s.left : Int), .bool s.last, li, (.pointer (some ⟨dd, 0, none⟩)), .int .i64 (s.copies : Int), .int .i64 (s.far : Int)]]) (fun y => [(7, _)]) (fun y => rfl) rfl (fun y => rfl) rfl (fun y FF hA => st_v (v_load V.s65 rfl (by repeat first | exact .head _ | apply List.Mem.tail) rfl) ⟨rfl, rfl⟩) (by intros; rfl) (by intro y y2 h; rfl) ?_
  refine net_pure (fun y => [(0, _)]) (fun y => rfl) rfl rfl rfl (fun y hA L => st_v (v_move rfl) ⟨rfl, rfl⟩) (by intros; rfl) (by intro y y2 h; rfl) ?_
  refine net_pure (fun y => [(9, _)]) (fun y => rfl) rfl rfl rfl (fun y hA L => st_v (v_nil rfl) ⟨rfl, rfl⟩) (by intros; rfl) (by intro y y2 h; rfl) ?_
  refine net_pure (fun y => [(10, _)]) (fun y => rfl) rfl rfl rfl (fun y hA L => st_v (v_fieldAddr V.f67_0 rfl) ⟨rfl, rfl⟩) (by intros; rfl) (by intro y y2 h; rfl) ?_
  refine net_read (fun y => [Cel b 67 [.pointer (some ⟨bl, 0, none⟩), .int .i64 sz, .int .i64 mo, .slice po no co, .bool s.ended, .int .i64 0, .int .i64 s.kind, .int .i64 (s.left : Int), .bool s.last, li, (.pointer (some ⟨dd, 0, none⟩)), .int .i64 (s.copies : Int), .int .i64 (s.far : Int)]]) (fun y => [(11, _)]) (fun y => rfl) rfl (fun y => rfl) rfl (fun y FF hA => st_v (v_load V.s63 rfl (by repeat first | exact .head _ | apply List.Mem.tail) rfl) ⟨rfl, rfl⟩) (by intros; rfl) (by intro y y2 h; rfl) ?_
  refine net_eff (fun y => [HC dd ds, LW bl B a [] 0]) (fun y => []) (fun y => [HC dd ds, LW bl B a3 [] 0]) (fun y => [(8, _), (12, _)]) (fun y => rfl) (fun y => rfl) (fun y => rfl) (fun y => rfl) (fun y FF hA => st_callN (Post := [HC dd ds, LW bl B a3 [] 0]) ((c_sym dd ds bl B a [] 0 hE hl hB ha).ok hs) V.b51 rfl (.cons (by repeat first | exact .head | apply Rem.tail) (.cons (by repeat first | exact .head | apply Rem.tail) .nil)) (fun v G h => by rcases h with ⟨rfl, rfl⟩; exact ⟨rfl, .refl _⟩)) (by intros; rfl) (by intros; rfl) (by intro y y2 h; rfl) ?_
  refine net_pure (fun y => [(13, _)]) (fun y => rfl) rfl rfl rfl (fun y hA L => st_v (v_assign rfl) ⟨rfl, rfl⟩) (by intros; rfl) (by intro y y2 h; rfl) ?_
  refine net_nil ?_
  intro y hA
  clear hA
  refine thn_n ?_
  refine w_keep _ (.cons (d := 0) rfl (.cons (d := 3) rfl (.nil _))) ?_
  refine w_sub (M := Cel b 67 [.pointer (some ⟨bl, 0, none⟩), .int .i64 sz, .int .i64 mo, .slice po no co, .bool s.ended, .int .i64 0, .int .i64 s.kind, .int .i64 (s.left : Int), .bool s.last, li, (.pointer (some ⟨dd, 0, none⟩)), .int .i64 (s.copies : Int), .int .i64 (s.far : Int)] :: HC dd ds :: LW bl B a3 [] 0 :: F) (fun _ _ h => h) ?_
  rcases (Classical.em (sy < 30)) with hq | hq
  ·
   refine w_seq ?_
   refine w_region ?_
   refine o_val (v_move rfl) rfl ?_
   refine o_val (v_T (v_lss rfl rfl) hq) rfl ?_
   refine o_call (c_must 4) V.b47  rfl .nil rfl ?_
   rintro _ _ ⟨rfl, rfl⟩
   refine o_nil ?_
   refine thn_n ?_
   refine w_seq ?_
   refine w_seq ?_
   refine w_region ?_
   refine o_val (v_move rfl) rfl ?_
   refine o_val (v_lss rfl rfl) rfl ?_
   refine o_nil ?_
   refine thn_n ?_
   first | refine w_condD rfl (fun h18 => ?_) (fun h18 => ?_) | refine w_cond rfl (fun h18 => ?_) (fun h18 => ?_)
   ·
    refine w_seq ?_
    refine w_region ?_
    refine o_val (v_move rfl) rfl ?_
    refine o_val (v_add rfl rfl (wrapI (by omega) (by omega))) rfl ?_
    refine o_val (v_assign rfl) rfl ?_
    refine o_nil ?_
    refine thn_n ?_
    refine w_ret ?_
    refine (thn_r ?_)
    exact pe_ret (x := (1 + sy, a3)) (InfP.away_few hs h0 (by omega) h3) (res1 rfl) ⟨rfl, rfl⟩ (sub (.cons (by repeat first | exact .head | apply Rem.tail) (.cons (by repeat first | exact .head | apply Rem.tail) (.cons (by repeat first | exact .head | apply Rem.tail) .nil))) (by repeat first | exact .refl | apply Drop.skip))
   ·
    refine w_skip ?_
    refine thn_n ?_
    refine w_seq ?_
    refine w_region ?_
    refine o_val (v_move rfl) rfl ?_
    refine o_val (v_quo rfl rfl (by omega) (quoI (by omega) (by omega) (by omega))) rfl ?_
    refine o_val (v_sub rfl rfl (wrapI (by omega) (by omega))) rfl ?_
    refine o_val (v_assign rfl) rfl ?_
    refine o_nil ?_
    refine thn_n ?_
    rcases (Nat.lt_or_ge (8 * B.length) (a3 + (InfP.dsK sy))) with hx | hx
    ·
     refine w_seq ?_
     obtain ⟨hk1, hk2, hk3⟩ := InfP.dsK_le (s := sy) (by omega) (by omega)
     have hsh := InfP.shl_small (x := 2 + sy % 2) (n := InfP.dsK sy) (by omega) (by omega) (by omega) rfl
     have hnb := BitP.numL_bound B a3 (InfP.dsK sy)
     have hnc := BitP.pow24 (show InfP.dsK sy ≤ 24 by omega)
     rw [hk1]
     refine w_net [⟨[], [], [3], 0, 0⟩, ⟨[0], [0], [], 0, 0⟩, ⟨[0, 1], [1], [], 0, 0⟩, ⟨[], [], [4], 0, 0⟩, ⟨[0, 1, 2, 3], [2, 3], [], 0, 0⟩, ⟨[0, 1, 2, 3, 4], [4], [], 0, 0⟩, ⟨[], [], [0], 0, 0⟩, ⟨[6], [6], [], 0, 0⟩, ⟨[6, 7], [7], [], 0, 0⟩, ⟨[6, 7, 8], [8], [], 0, 0⟩, ⟨[], [], [4], 0, 0⟩, ⟨[6, 7, 8, 9, 10], [9, 10], [], 0, 0⟩, ⟨[0, 1, 2, 3, 4, 5, 6, 7, 8, 9, 10, 11], [5, 11], [], 0, 0⟩, ⟨[0, 1, 2, 3, 4, 5, 6, 7, 8, 9, 10, 11, 12], [12], [], 0, 0⟩] [⟨fun y => Cel b 67 [.pointer (some ⟨bl, 0, none⟩), .int .i64 sz, .int .i64 mo, .slice po no co, .bool s.ended, .int .i64 0, .int .i64 s.kind, .int .i64 (s.left : Int), .bool s.last, li, (.pointer (some ⟨dd, 0, none⟩)), .int .i64 (s.copies : Int), .int .i64 (s.far : Int)], none, none, [9, 11]⟩, ⟨fun y => HC dd ds, none, none, []⟩, ⟨fun y => LW bl B a3 [] 0, none, none, [11]⟩] F V.mixed (by kernel_rfl) rfl (fun _ => .refl _) (locT_0 _ (locT_0 _ (locT_0 _ locT_nil))) ?_
     refine net_pure (fun y => [(3, _)]) (fun y => rfl) rfl rfl rfl (fun y hA L => st_v (v_move rfl) ⟨rfl, rfl⟩) (by intros; rfl) (by intro y y2 h; rfl) ?_
     refine net_pure (fun y => [(24, _)]) (fun y => rfl) rfl rfl rfl (fun y hA L => st_v (v_rem rfl rfl (by omega) (remI (by omega))) ⟨rfl, rfl⟩) (by intros; rfl) (by intro y y2 h; rfl) ?_
     refine net_pure (fun y => [(25, _)]) (fun y => rfl) rfl rfl rfl (fun y hA L => st_v (v_add rfl rfl (wrapI (by omega) (by omega))) ⟨rfl, rfl⟩) (by intros; rfl) (by intro y y2 h; rfl) ?_
     refine net_pure (fun y => [(4, _)]) (fun y => rfl) rfl rfl rfl (fun y hA L => st_v (v_move rfl) ⟨rfl, rfl⟩) (by intros; rfl) (by intro y y2 h; rfl) ?_
     refine net_pure (fun y => [(26, _), (27, _)]) (fun y => rfl) rfl rfl rfl (fun y hA L => st_v (v_shl (r := (2 + sy % 2) * 2 ^ InfP.dsK sy) rfl rfl (by omega) hsh.1) ⟨rfl, rfl⟩) (by intros; rfl) (by intro y y2 h; rfl) ?_
     refine net_pure (fun y => [(28, _)]) (fun y => rfl) rfl rfl rfl (fun y hA L => st_v (v_add rfl rfl (wrapI (by omega) (by omega))) ⟨rfl, rfl⟩) (by intros; rfl) (by intro y y2 h; rfl) ?_
     refine net_pure (fun y => [(0, _)]) (fun y => rfl) rfl rfl rfl (fun y hA L => st_v (v_move rfl) ⟨rfl, rfl⟩) (by intros; rfl) (by intro y y2 h; rfl) ?_
     refine net_pure (fun y => [(30, _)]) (fun y => rfl) rfl rfl rfl (fun y hA L => st_v (v_nil rfl) ⟨rfl, rfl⟩) (by intros; rfl) (by intro y y2 h; rfl) ?_
     refine net_pure (fun y => [(31, _)]) (fun y => rfl) rfl rfl rfl (fun y hA L => st_v (v_fieldAddr V.f67_0 rfl) ⟨rfl, rfl⟩) (by intros; rfl) (by intro y y2 h; rfl) ?_
     refine net_read (fun y => [Cel b 67 [.pointer (some ⟨bl, 0, none⟩), .int .i64 sz, .int .i64 mo, .slice po no co, .bool s.ended, .int .i64 0, .int .i64 s.kind, .int .i64 (s.left : Int), .bool s.last, li, (.pointer (some ⟨dd, 0, none⟩)), .int .i64 (s.copies : Int), .int .i64 (s.far : Int)]]) (fun y => [(32, _)]) (fun y => rfl) rfl (fun y => rfl) rfl (fun y FF hA => st_v (v_load V.s63 rfl (by repeat first | exact .head _ | apply List.Mem.tail) rfl) ⟨rfl, rfl⟩) (by intros; rfl) (by intro y y2 h; rfl) ?_
     refine net_pure (fun y => [(4, _)]) (fun y => rfl) rfl rfl rfl (fun y hA L => st_v (v_move rfl) ⟨rfl, rfl⟩) (by intros; rfl) (by intro y y2 h; rfl) ?_
     refine net_pan (undef) (fun y => [Cel b 67 [.pointer (some ⟨bl, 0, none⟩), .int .i64 sz, .int .i64 mo, .slice po no co, .bool s.ended, .int .i64 0, .int .i64 s.kind, .int .i64 (s.left : Int), .bool s.last, li, (.pointer (some ⟨dd, 0, none⟩)), .int .i64 (s.copies : Int), .int .i64 (s.far : Int)], LW bl B a3 [] 0]) (fun y => [(33, _), (34, _)]) (fun y => rfl) rfl (fun y => rfl) (fun y FF hA => st_callE (c_takeE bl B a3 [] 0 (InfP.dsK sy) hl hB (by omega) (by omega) (by omega)) V.b45 rfl (.cons (by repeat first | exact .head | apply Rem.tail) .nil) (by rintro _ _ ⟨rfl, rfl⟩; exact x_pe (InfP.away_short hs (by omega) (by omega) hx) PE.end_ (fold' (.cons (by repeat first | exact .head | apply Rem.tail) .nil) (by first | exact dp0 (M := FF) (F := F) | exact dp1 (M := FF) (F := F) | exact dp2 (M := FF) (F := F) | exact dp3 (M := FF) (F := F) | exact dp4 (M := FF) (F := F) | exact dp5 (M := FF) (F := F) | exact dp6 (M := FF) (F := F) | exact dp7 (M := FF) (F := F) | exact dp8 (M := FF) (F := F) | exact dp9 (M := FF) (F := F)) (fun w0 h hh => mx_close hh)))) ?_
     refine net_pan (.bool true) (fun y => []) (fun y => [(29, _), (35, _)]) (fun y => rfl) rfl (fun y => rfl) (fun y FF hA => (KnN.fact (hA 11 (by decide)) (q := fun _ => False) rfl).elim) ?_
     refine net_pan (.bool true) (fun y => []) (fun y => [(36, _)]) (fun y => rfl) rfl (fun y => rfl) (fun y FF hA => (KnN.fact (hA 11 (by decide)) (q := fun _ => False) rfl).elim) ?_
     refine net_nil ?_
     intro y hA
     exact (KnN.fact (hA 11 (by exact Nat.le_of_ble_eq_true rfl)) (q := fun _ => False) rfl).elim
    ·
     refine w_seq ?_
     obtain ⟨hk1, hk2, hk3⟩ := InfP.dsK_le (s := sy) (by omega) (by omega)
     have hsh := InfP.shl_small (x := 2 + sy % 2) (n := InfP.dsK sy) (by omega) (by omega) (by omega) rfl
     have hnb := BitP.numL_bound B a3 (InfP.dsK sy)
     have hnc := BitP.pow24 (show InfP.dsK sy ≤ 24 by omega)
     rw [hk1]
     refine w_net [⟨[], [], [3], 0, 0⟩, ⟨[0], [0], [], 0, 0⟩, ⟨[0, 1], [1], [], 0, 0⟩, ⟨[], [], [4], 0, 0⟩, ⟨[0, 1, 2, 3], [2, 3], [], 0, 0⟩, ⟨[0, 1, 2, 3, 4], [4], [], 0, 0⟩, ⟨[], [], [0], 0, 0⟩, ⟨[6], [6], [], 0, 0⟩, ⟨[6, 7], [7], [], 0, 0⟩, ⟨[6, 7, 8], [8], [], 0, 0⟩, ⟨[], [], [4], 0, 0⟩, ⟨[6, 7, 8, 9, 10], [9, 10], [], 0, 0⟩, ⟨[0, 1, 2, 3, 4, 5, 6, 7, 8, 9, 10, 11], [5, 11], [], 0, 0⟩, ⟨[0, 1, 2, 3, 4, 5, 6, 7, 8, 9, 10, 11, 12], [12], [], 0, 0⟩] [⟨fun y => Cel b 67 [.pointer (some ⟨bl, 0, none⟩), .int .i64 sz, .int .i64 mo, .slice po no co, .bool s.ended, .int .i64 0, .int .i64 s.kind, .int .i64 (s.left : Int), .bool s.last, li, (.pointer (some ⟨dd, 0, none⟩)), .int .i64 (s.copies : Int), .int .i64 (s.far : Int)], none, none, [9]⟩, ⟨fun y => HC dd ds, none, none, []⟩, ⟨fun y => LW bl B a3 [] 0, none, some 11, []⟩, ⟨fun y => LW bl B (a3 + (InfP.dsK sy)) [] 0, some 11, none, []⟩] F V.mixed (by kernel_rfl) rfl (fun _ => .refl _) (locT_0 _ (locT_0 _ (locT_0 _ (locT_1 [6, 7, 8, 9, 10] rfl (by intro y y2 h; rfl) locT_nil)))) ?_
     refine net_pure (fun y => [(3, _)]) (fun y => rfl) rfl rfl rfl (fun y hA L => st_v (v_move rfl) ⟨rfl, rfl⟩) (by intros; rfl) (by intro y y2 h; rfl) ?_
     refine net_pure (fun y => [(24, _)]) (fun y => rfl) rfl rfl rfl (fun y hA L => st_v (v_rem rfl rfl (by omega) (remI (by omega))) ⟨rfl, rfl⟩) (by intros; rfl) (by intro y y2 h; rfl) ?_
     refine net_pure (fun y => [(25, _)]) (fun y => rfl) rfl rfl rfl (fun y hA L => st_v (v_add rfl rfl (wrapI (by omega) (by omega))) ⟨rfl, rfl⟩) (by intros; rfl) (by intro y y2 h; rfl) ?_
     refine net_pure (fun y => [(4, _)]) (fun y => rfl) rfl rfl rfl (fun y hA L => st_v (v_move rfl) ⟨rfl, rfl⟩) (by intros; rfl) (by intro y y2 h; rfl) ?_
     refine net_pure (fun y => [(26, _), (27, _)]) (fun y => rfl) rfl rfl rfl (fun y hA L => st_v (v_shl (r := (2 + sy % 2) * 2 ^ InfP.dsK sy) rfl rfl (by omega) hsh.1) ⟨rfl, rfl⟩) (by intros; rfl) (by intro y y2 h; rfl) ?_
     refine net_pure (fun y => [(28, _)]) (fun y => rfl) rfl rfl rfl (fun y hA L => st_v (v_add rfl rfl (wrapI (by omega) (by omega))) ⟨rfl, rfl⟩) (by intros; rfl) (by intro y y2 h; rfl) ?_
     refine net_pure (fun y => [(0, _)]) (fun y => rfl) rfl rfl rfl (fun y hA L => st_v (v_move rfl) ⟨rfl, rfl⟩) (by intros; rfl) (by intro y y2 h; rfl) ?_
     refine net_pure (fun y => [(30, _)]) (fun y => rfl) rfl rfl rfl (fun y hA L => st_v (v_nil rfl) ⟨rfl, rfl⟩) (by intros; rfl) (by intro y y2 h; rfl) ?_
     refine net_pure (fun y => [(31, _)]) (fun y => rfl) rfl rfl rfl (fun y hA L => st_v (v_fieldAddr V.f67_0 rfl) ⟨rfl, rfl⟩) (by intros; rfl) (by intro y y2 h; rfl) ?_
     refine net_read (fun y => [Cel b 67 [.pointer (some ⟨bl, 0, none⟩), .int .i64 sz, .int .i64 mo, .slice po no co, .bool s.ended, .int .i64 0, .int .i64 s.kind, .int .i64 (s.left : Int), .bool s.last, li, (.pointer (some ⟨dd, 0, none⟩)), .int .i64 (s.copies : Int), .int .i64 (s.far : Int)]]) (fun y => [(32, _)]) (fun y => rfl) rfl (fun y => rfl) rfl (fun y FF hA => st_v (v_load V.s63 rfl (by repeat first | exact .head _ | apply List.Mem.tail) rfl) ⟨rfl, rfl⟩) (by intros; rfl) (by intro y y2 h; rfl) ?_
     refine net_pure (fun y => [(4, _)]) (fun y => rfl) rfl rfl rfl (fun y hA L => st_v (v_move rfl) ⟨rfl, rfl⟩) (by intros; rfl) (by intro y y2 h; rfl) ?_
     refine net_eff (fun y => [LW bl B a3 [] 0]) (fun y => []) (fun y => [LW bl B (a3 + (InfP.dsK sy)) [] 0]) (fun y => [(33, _), (34, _)]) (fun y => rfl) (fun y => rfl) (fun y => rfl) (fun y => rfl) (fun y FF hA => st_callN (Post := [LW bl B (a3 + (InfP.dsK sy)) [] 0]) (c_take bl B a3 [] 0 (InfP.dsK sy) hl hB (by omega) (by omega)) V.b45 rfl (.cons (by repeat first | exact .head | apply Rem.tail) .nil) (fun v G h => by rcases h with ⟨rfl, rfl⟩; exact ⟨rfl, .refl _⟩)) (by intros; rfl) (by intros; rfl) (by intro y y2 h; rfl) ?_
     refine net_pure (fun y => [(29, _), (35, _)]) (fun y => rfl) rfl rfl rfl (fun y hA L => st_v (v_add rfl rfl (wrapI (by omega) (by omega))) ⟨rfl, rfl⟩) (by intros; rfl) (by intro y y2 h; rfl) ?_
     refine net_pure (fun y => [(36, _)]) (fun y => rfl) rfl rfl rfl (fun y hA L => st_v (v_assign rfl) ⟨rfl, rfl⟩) (by intros; rfl) (by intro y y2 h; rfl) ?_
     refine net_nil ?_
     intro y hA
     clear hA
     refine thn_n ?_
     refine w_keep _ (.cons (d := 2) rfl (.nil _)) ?_
     refine w_sub (M := Cel b 67 [.pointer (some ⟨bl, 0, none⟩), .int .i64 sz, .int .i64 mo, .slice po no co, .bool s.ended, .int .i64 0, .int .i64 s.kind, .int .i64 (s.left : Int), .bool s.last, li, (.pointer (some ⟨dd, 0, none⟩)), .int .i64 (s.copies : Int), .int .i64 (s.far : Int)] :: HC dd ds :: LW bl B (a3 + (InfP.dsK sy)) [] 0 :: F) (fun _ _ h => h) ?_
     refine w_ret ?_
     exact pe_ret (x := (1 + (2 + sy % 2) * 2 ^ InfP.dsK sy + BitP.numL B a3 (InfP.dsK sy), a3 + InfP.dsK sy)) (InfP.away_ok hs (by omega) (by omega) hx) (res1 rfl) ⟨rfl, rfl⟩ (sub (.cons (by repeat first | exact .head | apply Rem.tail) (.cons (by repeat first | exact .head | apply Rem.tail) (.cons (by repeat first | exact .head | apply Rem.tail) .nil))) (by repeat first | exact .refl | apply Drop.skip))
  ·
   refine w_seq ?_
   refine w_region ?_
   refine o_val (v_move rfl) rfl ?_
   refine o_val (v_F (v_lss rfl rfl) hq) rfl ?_
   refine o_callE (c_mustE 4) V.b47 rfl .nil ?_
   rintro _ _ ⟨rfl, rfl⟩
   refine (thn_p ?_)
   exact pe_pan (InfP.away_no hs (by omega)) (PE.no (by decide)) (fold' (.cons (by repeat first | exact .head | apply Rem.tail) .nil) (by repeat first | exact .refl | apply Drop.skip) (fun w0 h hh => mx_close hh))

set_option maxHeartbeats 4000000 in
set_option maxRecDepth 100000 in
theorem c_begin (b bl : Nat) (sz mo : Int) (li di : Value) (s : InfP.St) (B : List Int) (hl : B.length < 500000000) (hB : BitP.Byt B) (ha : s.at_ ≤ 8 * B.length) : Ctr Try.prog 42 [.pointer (some ⟨b, 0, none⟩)] [MS b bl sz mo li di s, LW bl B s.at_ [] 0] (PostE (InfP.begin_ B s) (fun s2 v G => v = .tuple #[] ∧ G = [MM b bl sz mo B s2]) [MX b bl sz mo]) := by
 refine spec_of [(0, _)] Try.func42 rfl Try.ntmps42 rfl rfl ?_
 intro w0 F
 refine w_opn (fun h hh => hh) ?_
 rintro ⟨po, co⟩ _
 dsimp only
 have hn1 := BitP.numL_bound B (InfP.alg (s.at_ + 3)) 16
 have hn2 := BitP.numL_bound B ((InfP.alg (s.at_ + 3)) + 16) 16
 have hal : InfP.alg (s.at_ + 3) = (s.at_ + 3 + 7) / 8 * 8 := InfP.alg_eq _
 rcases (Nat.lt_or_ge (8 * B.length) (s.at_ + 1)) with hx0 | hx0
 ·
  refine w_seq ?_
  refine w_region ?_
  refine o_val (v_move rfl) rfl ?_
  refine o_val (v_move rfl) rfl ?_
  refine o_val (v_nil rfl) rfl ?_
  refine o_val (v_fieldAddr V.f67_0 rfl) rfl ?_
  refine o_val (v_load V.s63 rfl (by repeat first | exact .head _ | apply List.Mem.tail) rfl) rfl ?_
  refine o_callE (c_takeE bl B s.at_ [] 0 1 hl hB (by omega) (by omega) (by omega)) V.b45 rfl (.cons (by repeat first | exact .head | apply Rem.tail) .nil) ?_
  rintro _ _ ⟨rfl, rfl⟩
  refine (thn_p ?_)
  exact pe_pan (InfP.beg_1 (by omega)) PE.end_ (fold' (.cons (by repeat first | exact .head | apply Rem.tail) .nil) (by repeat first | exact .refl | apply Drop.skip) (fun w0 h hh => mx_close hh))
 ·
  refine w_seq ?_
  refine w_region ?_
  refine o_val (v_move rfl) rfl ?_
  refine o_val (v_move rfl) rfl ?_
  refine o_val (v_nil rfl) rfl ?_
  refine o_val (v_fieldAddr V.f67_0 rfl) rfl ?_
  refine o_val (v_load V.s63 rfl (by repeat first | exact .head _ | apply List.Mem.tail) rfl) rfl ?_
  refine o_call (c_take bl B s.at_ [] 0 1 hl hB (by omega) (by omega)) V.b45  rfl (.cons (by repeat first | exact .head | apply Rem.tail) .nil) rfl ?_
  rintro _ _ ⟨rfl, rfl⟩
  refine o_val (v_eql rfl rfl) rfl ?_
  refine o_val (v_nil rfl) rfl ?_
  refine o_val (v_fieldAddr V.f67_8 rfl) rfl ?_
  refine o_eff (v_store V.s4 rfl rfl rfl (by repeat first | exact .head | apply Rep.tail) (by exact Nat.le_of_ble_eq_true rfl) rfl) ?_
  refine o_nil ?_
  refine thn_n ?_
  rcases (Nat.lt_or_ge (8 * B.length) (s.at_ + 3)) with hx1 | hx1
  ·
   refine w_seq ?_
   refine w_region ?_
   refine o_val (v_move rfl) rfl ?_
   refine o_val (v_move rfl) rfl ?_
   refine o_val (v_nil rfl) rfl ?_
   refine o_val (v_fieldAddr V.f67_0 rfl) rfl ?_
   refine o_val (v_load V.s63 rfl (by repeat first | exact .head _ | apply List.Mem.tail) rfl) rfl ?_
   refine o_callE (c_takeE bl B (s.at_ + 1) [] 0 2 hl hB (by omega) (by omega) (by omega)) V.b45 rfl (.cons (by repeat first | exact .head | apply Rem.tail) .nil) ?_
   rintro _ _ ⟨rfl, rfl⟩
   refine (thn_p ?_)
   exact pe_pan (InfP.beg_1 (by omega)) PE.end_ (fold' (.cons (by repeat first | exact .head | apply Rem.tail) .nil) (by repeat first | exact .refl | apply Drop.skip) (fun w0 h hh => mx_close hh))
  ·
   refine w_seq ?_
   refine w_region ?_
   refine o_val (v_move rfl) rfl ?_
   refine o_val (v_move rfl) rfl ?_
   refine o_val (v_nil rfl) rfl ?_
   refine o_val (v_fieldAddr V.f67_0 rfl) rfl ?_
   refine o_val (v_load V.s63 rfl (by repeat first | exact .head _ | apply List.Mem.tail) rfl) rfl ?_
   refine o_call (c_take bl B (s.at_ + 1) [] 0 2 hl hB (by omega) (by omega)) V.b45  rfl (.cons (by repeat first | exact .head | apply Rem.tail) .nil) rfl ?_
   rintro _ _ ⟨rfl, rfl⟩
   refine o_val (v_nil rfl) rfl ?_
   refine o_val (v_fieldAddr V.f67_6 rfl) rfl ?_
   refine o_eff (v_store V.s3 rfl rfl rfl (by repeat first | exact .head | apply Rep.tail) (by exact Nat.le_of_ble_eq_true rfl) rfl) ?_
   refine o_nil ?_
   refine thn_n ?_
   refine w_seq ?_
   refine w_region ?_
   refine o_val (v_move rfl) rfl ?_
   refine o_val (v_nil rfl) rfl ?_
   refine o_val (v_fieldAddr V.f67_6 rfl) rfl ?_
   refine o_val (v_load V.s3 rfl (by repeat first | exact .head _ | apply List.Mem.tail) rfl) rfl ?_
   refine o_nil ?_
   refine thn_n ?_
   refine w_block ?_
   refine w_seq ?_
   refine w_region ?_
   refine o_val (v_eql rfl rfl) rfl ?_
   refine o_val (v_assign rfl) rfl ?_
   refine o_nil ?_
   refine thn_n ?_
   first | refine w_condD rfl (fun h26 => ?_) (fun h26 => ?_) | refine w_cond rfl (fun h26 => ?_) (fun h26 => ?_)
   ·
    refine w_seq ?_
    refine w_region ?_
    refine o_val (v_move rfl) rfl ?_
    refine o_val (v_nil rfl) rfl ?_
    refine o_val (v_fieldAddr V.f67_0 rfl) rfl ?_
    refine o_val (v_load V.s63 rfl (by repeat first | exact .head _ | apply List.Mem.tail) rfl) rfl ?_
    refine o_call (c_align bl B (s.at_ + 3) [] 0 hl (by omega)) V.b48  rfl (.cons (by repeat first | exact .head | apply Rem.tail) .nil) rfl ?_
    rintro _ _ ⟨rfl, rfl⟩
    refine o_nil ?_
    refine thn_n ?_
    rcases (InfP.room2 B.length (InfP.alg (s.at_ + 3))) with hx | ⟨hx2, hx⟩ | hx
    ·
     refine w_seq ?_
     have hk0 : (BitP.numL B (s.at_ + 1) 2) = 0 := by omega
     refine w_net [⟨[], [], [0], 0, 0⟩, ⟨[0], [0], [], 0, 0⟩, ⟨[0, 1], [1], [], 0, 0⟩, ⟨[0, 1, 2], [2], [], 0, 0⟩, ⟨[0, 1, 2, 3], [3], [], 0, 0⟩, ⟨[], [], [0], 0, 0⟩, ⟨[5], [5], [], 0, 0⟩, ⟨[5, 6], [6], [], 0, 0⟩, ⟨[5, 6, 7], [7], [], 0, 0⟩, ⟨[0, 1, 2, 3, 4, 5, 6, 7, 8], [8], [], 0, 0⟩, ⟨[0, 1, 2, 3, 4, 5, 6, 7, 8, 9], [4], [], 0, 0⟩, ⟨[0, 1, 2, 3, 4, 5, 6, 7, 8, 9, 10], [9], [], 0, 0⟩] [⟨fun y => LW bl B (InfP.alg (s.at_ + 3)) [] 0, none, none, [4]⟩, ⟨fun y => Cel b 67 [.pointer (some ⟨bl, 0, none⟩), .int .i64 sz, .int .i64 mo, .slice po s.out.length co, .bool s.ended, .int .i64 0, .int .i64 (BitP.numL B (s.at_ + 1) 2), .int .i64 (s.left : Int), .bool (decide (BitP.numL B s.at_ 1 = 1)), li, di, .int .i64 (s.copies : Int), .int .i64 (s.far : Int)], none, none, [3, 4, 8]⟩, ⟨fun y => Row U5 po s.out.length co s.out, none, none, []⟩] F V.mixed (by kernel_rfl) rfl (fun _ => .refl _) (locT_0 _ (locT_0 _ (locT_0 _ locT_nil))) ?_
     refine net_pure (fun y => [(0, _)]) (fun y => rfl) rfl rfl rfl (fun y hA L => st_v (v_move rfl) ⟨rfl, rfl⟩) (by intros; rfl) (by intro y y2 h; rfl) ?_
     refine net_pure (fun y => [(33, _)]) (fun y => rfl) rfl rfl rfl (fun y hA L => st_v (v_nil rfl) ⟨rfl, rfl⟩) (by intros; rfl) (by intro y y2 h; rfl) ?_
     refine net_pure (fun y => [(34, _)]) (fun y => rfl) rfl rfl rfl (fun y hA L => st_v (v_fieldAddr V.f67_0 rfl) ⟨rfl, rfl⟩) (by intros; rfl) (by intro y y2 h; rfl) ?_
     refine net_read (fun y => [Cel b 67 [.pointer (some ⟨bl, 0, none⟩), .int .i64 sz, .int .i64 mo, .slice po s.out.length co, .bool s.ended, .int .i64 0, .int .i64 (BitP.numL B (s.at_ + 1) 2), .int .i64 (s.left : Int), .bool (decide (BitP.numL B s.at_ 1 = 1)), li, di, .int .i64 (s.copies : Int), .int .i64 (s.far : Int)]]) (fun y => [(35, _)]) (fun y => rfl) rfl (fun y => rfl) rfl (fun y FF hA => st_v (v_load V.s63 rfl (by repeat first | exact .head _ | apply List.Mem.tail) rfl) ⟨rfl, rfl⟩) (by intros; rfl) (by intro y y2 h; rfl) ?_
     refine net_pan (undef) (fun y => [LW bl B (InfP.alg (s.at_ + 3)) [] 0, Cel b 67 [.pointer (some ⟨bl, 0, none⟩), .int .i64 sz, .int .i64 mo, .slice po s.out.length co, .bool s.ended, .int .i64 0, .int .i64 (BitP.numL B (s.at_ + 1) 2), .int .i64 (s.left : Int), .bool (decide (BitP.numL B s.at_ 1 = 1)), li, di, .int .i64 (s.copies : Int), .int .i64 (s.far : Int)]]) (fun y => [(36, _)]) (fun y => rfl) rfl (fun y => rfl) (fun y FF hA => st_callE (c_takeE bl B (InfP.alg (s.at_ + 3)) [] 0 16 hl hB (by omega) (by omega) (by omega)) V.b45 rfl (.cons (by repeat first | exact .head | apply Rem.tail) .nil) (by rintro _ _ ⟨rfl, rfl⟩; exact x_pe (InfP.beg_0s hx1 hk0 (by omega)) PE.end_ (fold' (.cons (by repeat first | exact .head | apply Rem.tail) .nil) (by first | exact dp0 (M := FF) (F := F) | exact dp1 (M := FF) (F := F) | exact dp2 (M := FF) (F := F) | exact dp3 (M := FF) (F := F) | exact dp4 (M := FF) (F := F) | exact dp5 (M := FF) (F := F) | exact dp6 (M := FF) (F := F) | exact dp7 (M := FF) (F := F) | exact dp8 (M := FF) (F := F) | exact dp9 (M := FF) (F := F)) (fun w0 h hh => mx_close hh)))) ?_
     refine net_pure (fun y => [(0, _)]) (fun y => rfl) rfl rfl rfl (fun y hA L => st_v (v_move rfl) ⟨rfl, rfl⟩) (by intros; rfl) (by intro y y2 h; rfl) ?_
     refine net_pure (fun y => [(38, _)]) (fun y => rfl) rfl rfl rfl (fun y hA L => st_v (v_nil rfl) ⟨rfl, rfl⟩) (by intros; rfl) (by intro y y2 h; rfl) ?_
     refine net_pure (fun y => [(39, _)]) (fun y => rfl) rfl rfl rfl (fun y hA L => st_v (v_fieldAddr V.f67_0 rfl) ⟨rfl, rfl⟩) (by intros; rfl) (by intro y y2 h; rfl) ?_
     refine net_read (fun y => [Cel b 67 [.pointer (some ⟨bl, 0, none⟩), .int .i64 sz, .int .i64 mo, .slice po s.out.length co, .bool s.ended, .int .i64 0, .int .i64 (BitP.numL B (s.at_ + 1) 2), .int .i64 (s.left : Int), .bool (decide (BitP.numL B s.at_ 1 = 1)), li, di, .int .i64 (s.copies : Int), .int .i64 (s.far : Int)]]) (fun y => [(40, _)]) (fun y => rfl) rfl (fun y => rfl) rfl (fun y FF hA => st_v (v_load V.s63 rfl (by repeat first | exact .head _ | apply List.Mem.tail) rfl) ⟨rfl, rfl⟩) (by intros; rfl) (by intro y y2 h; rfl) ?_
     refine net_pan (.bool true) (fun y => []) (fun y => [(41, _)]) (fun y => rfl) rfl (fun y => rfl) (fun y FF hA => (KnN.fact (hA 4 (by decide)) (q := fun _ => False) rfl).elim) ?_
     refine net_pan (.bool true) (fun y => []) (fun y => [(37, _)]) (fun y => rfl) rfl (fun y => rfl) (fun y FF hA => (KnN.fact (hA 4 (by decide)) (q := fun _ => False) rfl).elim) ?_
     refine net_pan (.bool true) (fun y => []) (fun y => [(42, _)]) (fun y => rfl) rfl (fun y => rfl) (fun y FF hA => (KnN.fact (hA 4 (by decide)) (q := fun _ => False) rfl).elim) ?_
     refine net_nil ?_
     intro y hA
     exact (KnN.fact (hA 4 (by exact Nat.le_of_ble_eq_true rfl)) (q := fun _ => False) rfl).elim
    ·
     refine w_seq ?_
     have hk0 : (BitP.numL B (s.at_ + 1) 2) = 0 := by omega
     refine w_net [⟨[], [], [0], 0, 0⟩, ⟨[0], [0], [], 0, 0⟩, ⟨[0, 1], [1], [], 0, 0⟩, ⟨[0, 1, 2], [2], [], 0, 0⟩, ⟨[0, 1, 2, 3], [3], [], 0, 0⟩, ⟨[], [], [0], 0, 0⟩, ⟨[5], [5], [], 0, 0⟩, ⟨[5, 6], [6], [], 0, 0⟩, ⟨[5, 6, 7], [7], [], 0, 0⟩, ⟨[0, 1, 2, 3, 4, 5, 6, 7, 8], [8], [], 0, 0⟩, ⟨[0, 1, 2, 3, 4, 5, 6, 7, 8, 9], [4], [], 0, 0⟩, ⟨[0, 1, 2, 3, 4, 5, 6, 7, 8, 9, 10], [9], [], 0, 0⟩] [⟨fun y => LW bl B (InfP.alg (s.at_ + 3)) [] 0, none, some 4, []⟩, ⟨fun y => Cel b 67 [.pointer (some ⟨bl, 0, none⟩), .int .i64 sz, .int .i64 mo, .slice po s.out.length co, .bool s.ended, .int .i64 0, .int .i64 (BitP.numL B (s.at_ + 1) 2), .int .i64 (s.left : Int), .bool (decide (BitP.numL B s.at_ 1 = 1)), li, di, .int .i64 (s.copies : Int), .int .i64 (s.far : Int)], none, none, [3, 8, 9]⟩, ⟨fun y => Row U5 po s.out.length co s.out, none, none, []⟩, ⟨fun y => LW bl B ((InfP.alg (s.at_ + 3)) + 16) [] 0, some 4, none, [9]⟩] F V.mixed (by kernel_rfl) rfl (fun _ => .refl _) (locT_0 _ (locT_0 _ (locT_0 _ (locT_1 [0, 1, 2, 3] rfl (by intro y y2 h; rfl) locT_nil)))) ?_
     refine net_pure (fun y => [(0, _)]) (fun y => rfl) rfl rfl rfl (fun y hA L => st_v (v_move rfl) ⟨rfl, rfl⟩) (by intros; rfl) (by intro y y2 h; rfl) ?_
     refine net_pure (fun y => [(33, _)]) (fun y => rfl) rfl rfl rfl (fun y hA L => st_v (v_nil rfl) ⟨rfl, rfl⟩) (by intros; rfl) (by intro y y2 h; rfl) ?_
     refine net_pure (fun y => [(34, _)]) (fun y => rfl) rfl rfl rfl (fun y hA L => st_v (v_fieldAddr V.f67_0 rfl) ⟨rfl, rfl⟩) (by intros; rfl) (by intro y y2 h; rfl) ?_
     refine net_read (fun y => [Cel b 67 [.pointer (some ⟨bl, 0, none⟩), .int .i64 sz, .int .i64 mo, .slice po s.out.length co, .bool s.ended, .int .i64 0, .int .i64 (BitP.numL B (s.at_ + 1) 2), .int .i64 (s.left : Int), .bool (decide (BitP.numL B s.at_ 1 = 1)), li, di, .int .i64 (s.copies : Int), .int .i64 (s.far : Int)]]) (fun y => [(35, _)]) (fun y => rfl) rfl (fun y => rfl) rfl (fun y FF hA => st_v (v_load V.s63 rfl (by repeat first | exact .head _ | apply List.Mem.tail) rfl) ⟨rfl, rfl⟩) (by intros; rfl) (by intro y y2 h; rfl) ?_
     refine net_eff (fun y => [LW bl B (InfP.alg (s.at_ + 3)) [] 0]) (fun y => []) (fun y => [LW bl B ((InfP.alg (s.at_ + 3)) + 16) [] 0]) (fun y => [(36, _)]) (fun y => rfl) (fun y => rfl) (fun y => rfl) (fun y => rfl) (fun y FF hA => st_callN (Post := [LW bl B ((InfP.alg (s.at_ + 3)) + 16) [] 0]) (c_take bl B (InfP.alg (s.at_ + 3)) [] 0 16 hl hB (by omega) (by omega)) V.b45 rfl (.cons (by repeat first | exact .head | apply Rem.tail) .nil) (fun v G h => by rcases h with ⟨rfl, rfl⟩; exact ⟨rfl, .refl _⟩)) (by intros; rfl) (by intros; rfl) (by intro y y2 h; rfl) ?_
     refine net_pure (fun y => [(0, _)]) (fun y => rfl) rfl rfl rfl (fun y hA L => st_v (v_move rfl) ⟨rfl, rfl⟩) (by intros; rfl) (by intro y y2 h; rfl) ?_
     refine net_pure (fun y => [(38, _)]) (fun y => rfl) rfl rfl rfl (fun y hA L => st_v (v_nil rfl) ⟨rfl, rfl⟩) (by intros; rfl) (by intro y y2 h; rfl) ?_
     refine net_pure (fun y => [(39, _)]) (fun y => rfl) rfl rfl rfl (fun y hA L => st_v (v_fieldAddr V.f67_0 rfl) ⟨rfl, rfl⟩) (by intros; rfl) (by intro y y2 h; rfl) ?_
     refine net_read (fun y => [Cel b 67 [.pointer (some ⟨bl, 0, none⟩), .int .i64 sz, .int .i64 mo, .slice po s.out.length co, .bool s.ended, .int .i64 0, .int .i64 (BitP.numL B (s.at_ + 1) 2), .int .i64 (s.left : Int), .bool (decide (BitP.numL B s.at_ 1 = 1)), li, di, .int .i64 (s.copies : Int), .int .i64 (s.far : Int)]]) (fun y => [(40, _)]) (fun y => rfl) rfl (fun y => rfl) rfl (fun y FF hA => st_v (v_load V.s63 rfl (by repeat first | exact .head _ | apply List.Mem.tail) rfl) ⟨rfl, rfl⟩) (by intros; rfl) (by intro y y2 h; rfl) ?_
     refine net_pan (undef) (fun y => [Cel b 67 [.pointer (some ⟨bl, 0, none⟩), .int .i64 sz, .int .i64 mo, .slice po s.out.length co, .bool s.ended, .int .i64 0, .int .i64 (BitP.numL B (s.at_ + 1) 2), .int .i64 (s.left : Int), .bool (decide (BitP.numL B s.at_ 1 = 1)), li, di, .int .i64 (s.copies : Int), .int .i64 (s.far : Int)], LW bl B ((InfP.alg (s.at_ + 3)) + 16) [] 0]) (fun y => [(41, _)]) (fun y => rfl) rfl (fun y => rfl) (fun y FF hA => st_callE (c_takeE bl B ((InfP.alg (s.at_ + 3)) + 16) [] 0 16 hl hB (by omega) (by omega) (by omega)) V.b45 rfl (.cons (by repeat first | exact .head | apply Rem.tail) .nil) (by rintro _ _ ⟨rfl, rfl⟩; exact x_pe (InfP.beg_0s hx1 hk0 (by omega)) PE.end_ (fold' (.cons (by repeat first | exact .head | apply Rem.tail) .nil) (by first | exact dp0 (M := FF) (F := F) | exact dp1 (M := FF) (F := F) | exact dp2 (M := FF) (F := F) | exact dp3 (M := FF) (F := F) | exact dp4 (M := FF) (F := F) | exact dp5 (M := FF) (F := F) | exact dp6 (M := FF) (F := F) | exact dp7 (M := FF) (F := F) | exact dp8 (M := FF) (F := F) | exact dp9 (M := FF) (F := F)) (fun w0 h hh => mx_close hh)))) ?_
     refine net_pan (.bool true) (fun y => []) (fun y => [(37, _)]) (fun y => rfl) rfl (fun y => rfl) (fun y FF hA => (KnN.fact (hA 9 (by decide)) (q := fun _ => False) rfl).elim) ?_
     refine net_pan (.bool true) (fun y => []) (fun y => [(42, _)]) (fun y => rfl) rfl (fun y => rfl) (fun y FF hA => (KnN.fact (hA 9 (by decide)) (q := fun _ => False) rfl).elim) ?_
     refine net_nil ?_
     intro y hA
     exact (KnN.fact (hA 9 (by exact Nat.le_of_ble_eq_true rfl)) (q := fun _ => False) rfl).elim
    ·
     refine w_seq ?_
     have hk0 : (BitP.numL B (s.at_ + 1) 2) = 0 := by omega
     refine w_net [⟨[], [], [0], 0, 0⟩, ⟨[0], [0], [], 0, 0⟩, ⟨[0, 1], [1], [], 0, 0⟩, ⟨[0, 1, 2], [2], [], 0, 0⟩, ⟨[0, 1, 2, 3], [3], [], 0, 0⟩, ⟨[], [], [0], 0, 0⟩, ⟨[5], [5], [], 0, 0⟩, ⟨[5, 6], [6], [], 0, 0⟩, ⟨[5, 6, 7], [7], [], 0, 0⟩, ⟨[0, 1, 2, 3, 4, 5, 6, 7, 8], [8], [], 0, 0⟩, ⟨[0, 1, 2, 3, 4, 5, 6, 7, 8, 9], [4], [], 0, 0⟩, ⟨[0, 1, 2, 3, 4, 5, 6, 7, 8, 9, 10], [9], [], 0, 0⟩] [⟨fun y => LW bl B (InfP.alg (s.at_ + 3)) [] 0, none, some 4, []⟩, ⟨fun y => Cel b 67 [.pointer (some ⟨bl, 0, none⟩), .int .i64 sz, .int .i64 mo, .slice po s.out.length co, .bool s.ended, .int .i64 0, .int .i64 (BitP.numL B (s.at_ + 1) 2), .int .i64 (s.left : Int), .bool (decide (BitP.numL B s.at_ 1 = 1)), li, di, .int .i64 (s.copies : Int), .int .i64 (s.far : Int)], none, none, [3, 8]⟩, ⟨fun y => Row U5 po s.out.length co s.out, none, none, []⟩, ⟨fun y => LW bl B ((InfP.alg (s.at_ + 3)) + 16) [] 0, some 4, some 9, []⟩, ⟨fun y => LW bl B ((InfP.alg (s.at_ + 3)) + 32) [] 0, some 9, none, []⟩] F V.mixed (by kernel_rfl) rfl (fun _ => .refl _) (locT_0 _ (locT_0 _ (locT_0 _ (locT_1 [0, 1, 2, 3] rfl (by intro y y2 h; rfl) (locT_1 [0, 1, 2, 3, 4, 5, 6, 7, 8] rfl (by intro y y2 h; rfl) locT_nil))))) ?_
     refine net_pure (fun y => [(0, _)]) (fun y => rfl) rfl rfl rfl (fun y hA L => st_v (v_move rfl) ⟨rfl, rfl⟩) (by intros; rfl) (by intro y y2 h; rfl) ?_
     refine net_pure (fun y => [(33, _)]) (fun y => rfl) rfl rfl rfl (fun y hA L => st_v (v_nil rfl) ⟨rfl, rfl⟩) (by intros; rfl) (by intro y y2 h; rfl) ?_
     refine net_pure (fun y => [(34, _)]) (fun y => rfl) rfl rfl rfl (fun y hA L => st_v (v_fieldAddr V.f67_0 rfl) ⟨rfl, rfl⟩) (by intros; rfl) (by intro y y2 h; rfl) ?_
     refine net_read (fun y => [Cel b 67 [.pointer (some ⟨bl, 0, none⟩), .int .i64 sz, .int .i64 mo, .slice po s.out.length co, .bool s.ended, .int .i64 0, .int .i64 (BitP.numL B (s.at_ + 1) 2), .int .i64 (s.left : Int), .bool (decide (BitP.numL B s.at_ 1 = 1)), li, di, .int .i64 (s.copies : Int), .int .i64 (s.far : Int)]]) (fun y => [(35, _)]) (fun y => rfl) rfl (fun y => rfl) rfl (fun y FF hA => st_v (v_load V.s63 rfl (by repeat first | exact .head _ | apply List.Mem.tail) rfl) ⟨rfl, rfl⟩) (by intros; rfl) (by intro y y2 h; rfl) ?_
     refine net_eff (fun y => [LW bl B (InfP.alg (s.at_ + 3)) [] 0]) (fun y => []) (fun y => [LW bl B ((InfP.alg (s.at_ + 3)) + 16) [] 0]) (fun y => [(36, _)]) (fun y => rfl) (fun y => rfl) (fun y => rfl) (fun y => rfl) (fun y FF hA => st_callN (Post := [LW bl B ((InfP.alg (s.at_ + 3)) + 16) [] 0]) (c_take bl B (InfP.alg (s.at_ + 3)) [] 0 16 hl hB (by omega) (by omega)) V.b45 rfl (.cons (by repeat first | exact .head | apply Rem.tail) .nil) (fun v G h => by rcases h with ⟨rfl, rfl⟩; exact ⟨rfl, .refl _⟩)) (by intros; rfl) (by intros; rfl) (by intro y y2 h; rfl) ?_
     refine net_pure (fun y => [(0, _)]) (fun y => rfl) rfl rfl rfl (fun y hA L => st_v (v_move rfl) ⟨rfl, rfl⟩) (by intros; rfl) (by intro y y2 h; rfl) ?_
     refine net_pure (fun y => [(38, _)]) (fun y => rfl) rfl rfl rfl (fun y hA L => st_v (v_nil rfl) ⟨rfl, rfl⟩) (by intros; rfl) (by intro y y2 h; rfl) ?_
     refine net_pure (fun y => [(39, _)]) (fun y => rfl) rfl rfl rfl (fun y hA L => st_v (v_fieldAddr V.f67_0 rfl) ⟨rfl, rfl⟩) (by intros; rfl) (by intro y y2 h; rfl) ?_
     refine net_read (fun y => [Cel b 67 [.pointer (some ⟨bl, 0, none⟩), .int .i64 sz, .int .i64 mo, .slice po s.out.length co, .bool s.ended, .int .i64 0, .int .i64 (BitP.numL B (s.at_ + 1) 2), .int .i64 (s.left : Int), .bool (decide (BitP.numL B s.at_ 1 = 1)), li, di, .int .i64 (s.copies : Int), .int .i64 (s.far : Int)]]) (fun y => [(40, _)]) (fun y => rfl) rfl (fun y => rfl) rfl (fun y FF hA => st_v (v_load V.s63 rfl (by repeat first | exact .head _ | apply List.Mem.tail) rfl) ⟨rfl, rfl⟩) (by intros; rfl) (by intro y y2 h; rfl) ?_
     refine net_eff (fun y => [LW bl B ((InfP.alg (s.at_ + 3)) + 16) [] 0]) (fun y => []) (fun y => [LW bl B ((InfP.alg (s.at_ + 3)) + 32) [] 0]) (fun y => [(41, _)]) (fun y => rfl) (fun y => rfl) (fun y => rfl) (fun y => rfl) (fun y FF hA => st_callN (Post := [LW bl B ((InfP.alg (s.at_ + 3)) + 32) [] 0]) (c_take bl B ((InfP.alg (s.at_ + 3)) + 16) [] 0 16 hl hB (by omega) (by omega)) V.b45 rfl (.cons (by repeat first | exact .head | apply Rem.tail) .nil) (fun v G h => by rcases h with ⟨rfl, rfl⟩; exact ⟨rfl, .refl _⟩)) (by intros; rfl) (by intros; rfl) (by intro y y2 h; rfl) ?_
     refine net_pure (fun y => [(37, _)]) (fun y => rfl) rfl rfl rfl (fun y hA L => st_v (v_assign rfl) ⟨rfl, rfl⟩) (by intros; rfl) (by intro y y2 h; rfl) ?_
     refine net_pure (fun y => [(42, _)]) (fun y => rfl) rfl rfl rfl (fun y hA L => st_v (v_assign rfl) ⟨rfl, rfl⟩) (by intros; rfl) (by intro y y2 h; rfl) ?_
     refine net_nil ?_
     intro y hA
     clear hA
     refine thn_n ?_
     refine w_keep _ (.cons (d := 0) rfl (.cons (d := 2) rfl (.cons (d := 3) rfl (.nil _)))) ?_
     refine w_sub (M := Cel b 67 [.pointer (some ⟨bl, 0, none⟩), .int .i64 sz, .int .i64 mo, .slice po s.out.length co, .bool s.ended, .int .i64 0, .int .i64 (BitP.numL B (s.at_ + 1) 2), .int .i64 (s.left : Int), .bool (decide (BitP.numL B s.at_ 1 = 1)), li, di, .int .i64 (s.copies : Int), .int .i64 (s.far : Int)] :: Row U5 po s.out.length co s.out :: LW bl B ((InfP.alg (s.at_ + 3)) + 32) [] 0 :: F) (fun _ _ h => h) ?_
     rcases (Classical.em ((BitP.numL B (InfP.alg (s.at_ + 3)) 16) = 65535 - (BitP.numL B ((InfP.alg (s.at_ + 3)) + 16) 16))) with hm | hm
     ·
      refine w_seq ?_
      refine w_region ?_
      refine o_val (v_move rfl) rfl ?_
      refine o_val (v_move rfl) rfl ?_
      refine o_val (v_xor (r := (IntKind.i64.wrap ((BitVec.ofInt IntKind.i64.bits (BitP.numL B (InfP.alg (s.at_ + 3)) 16) ^^^ BitVec.ofInt IntKind.i64.bits (BitP.numL B ((InfP.alg (s.at_ + 3)) + 16) 16)).toNat : Int))) rfl rfl rfl) rfl ?_
      refine o_val (v_T (v_eql rfl rfl) ((InfP.xor16 hn1 hn2).2 hm)) rfl ?_
      refine o_call (c_must 4) V.b47  rfl .nil rfl ?_
      rintro _ _ ⟨rfl, rfl⟩
      refine o_nil ?_
      refine thn_n ?_
      refine w_region ?_
      refine o_val (v_move rfl) rfl ?_
      refine o_val (v_move rfl) rfl ?_
      refine o_val (v_nil rfl) rfl ?_
      refine o_val (v_fieldAddr V.f67_7 rfl) rfl ?_
      refine o_eff (v_store V.s3 rfl rfl rfl (by repeat first | exact .head | apply Rep.tail) (by exact Nat.le_of_ble_eq_true rfl) rfl) ?_
      refine o_nil ?_
      refine blk_n ?_
      rw [hk0, show (BitP.numL B (InfP.alg (s.at_ + 3)) 16) = ((((BitP.numL B (InfP.alg (s.at_ + 3)) 16)).toNat : Nat) : Int) from (Int.toNat_of_nonneg hn1.1).symm]
      exact pe_end (x := { s with at_ := InfP.alg (s.at_ + 3) + 32, kind := 0, left := (BitP.numL B (InfP.alg (s.at_ + 3)) 16).toNat, last := (decide (BitP.numL B s.at_ 1 = 1)) }) (InfP.beg_0y hx1 hk0 (by omega) hm) res0 ⟨rfl, rfl⟩ ((fold' (.cons (by repeat first | exact .head | apply Rem.tail) (.cons (by repeat first | exact .head | apply Rem.tail) .nil)) .refl (fun w0 h hh => ms_close (s := { s with at_ := InfP.alg (s.at_ + 3) + 32, kind := 0, left := (BitP.numL B (InfP.alg (s.at_ + 3)) 16).toNat, last := (decide (BitP.numL B s.at_ 1 = 1)) }) rfl hh)).trans (fold' (.cons (by repeat first | exact .head | apply Rem.tail) (.cons (by repeat first | exact .head | apply Rem.tail) .nil)) (by repeat first | exact .refl | apply Drop.skip) (fun w0 h hh => mm_close0 (s := { s with at_ := InfP.alg (s.at_ + 3) + 32, kind := 0, left := (BitP.numL B (InfP.alg (s.at_ + 3)) 16).toNat, last := (decide (BitP.numL B s.at_ 1 = 1)) }) (Int.le_refl _) hh)))
     ·
      refine w_seq ?_
      refine w_region ?_
      refine o_val (v_move rfl) rfl ?_
      refine o_val (v_move rfl) rfl ?_
      refine o_val (v_xor (r := (IntKind.i64.wrap ((BitVec.ofInt IntKind.i64.bits (BitP.numL B (InfP.alg (s.at_ + 3)) 16) ^^^ BitVec.ofInt IntKind.i64.bits (BitP.numL B ((InfP.alg (s.at_ + 3)) + 16) 16)).toNat : Int))) rfl rfl rfl) rfl ?_
      refine o_val (v_F (v_eql rfl rfl) (fun h => hm ((InfP.xor16 hn1 hn2).1 h))) rfl ?_
      refine o_callE (c_mustE 4) V.b47 rfl .nil ?_
      rintro _ _ ⟨rfl, rfl⟩
      refine (thn_p (blk_p ?_))
      exact pe_pan (InfP.beg_0n hx1 hk0 (by omega) hm) (PE.no (by decide)) (fold' (.cons (by repeat first | exact .head | apply Rem.tail) .nil) (by repeat first | exact .refl | apply Drop.skip) (fun w0 h hh => mx_close hh))
   ·
    refine w_seq ?_
    refine w_region ?_
    refine o_val (v_eql rfl rfl) rfl ?_
    refine o_val (v_assign rfl) rfl ?_
    refine o_nil ?_
    refine thn_n ?_
    first | refine w_condD rfl (fun h52 => ?_) (fun h52 => ?_) | refine w_cond rfl (fun h52 => ?_) (fun h52 => ?_)
    ·
     refine w_region ?_
     refine o_val (v_move rfl) rfl ?_
     refine o_call (c_plain b bl sz mo po s.out.length co li di { s with kind := (BitP.numL B (s.at_ + 1) 2), last := (decide (BitP.numL B s.at_ 1 = 1)) }) V.b49  rfl (.cons (by repeat first | exact .head | apply Rem.tail) .nil) rfl ?_
     rintro _ _ ⟨lb, db, rfl, rfl⟩
     refine o_nil ?_
     refine blk_n ?_
     have hk1 : (BitP.numL B (s.at_ + 1) 2) = 1 := by omega
     rw [hk1]
     exact pe_end (x := { s with at_ := s.at_ + 3, kind := 1, last := (decide (BitP.numL B s.at_ 1 = 1)), lits := InfP.fixL, dist := InfP.fixD }) (InfP.beg_f hx1 hk1) res0 ⟨rfl, rfl⟩ ((fold' (.cons (by repeat first | exact .head | apply Rem.tail) (.cons (by repeat first | exact .head | apply Rem.tail) .nil)) .refl (fun w0 h hh => ms_close (s := { s with at_ := s.at_ + 3, kind := 1, last := (decide (BitP.numL B s.at_ 1 = 1)), lits := InfP.fixL, dist := InfP.fixD }) rfl hh)).trans (fold' (.cons (by repeat first | exact .head | apply Rem.tail) (.cons (by repeat first | exact .head | apply Rem.tail) (.cons (by repeat first | exact .head | apply Rem.tail) (.cons (by repeat first | exact .head | apply Rem.tail) .nil)))) (by repeat first | exact .refl | apply Drop.skip) (fun w0 h hh => mm_closeC (s := { s with at_ := s.at_ + 3, kind := 1, last := (decide (BitP.numL B s.at_ 1 = 1)), lits := InfP.fixL, dist := InfP.fixD }) hh)))
    ·
     refine w_seq ?_
     refine w_region ?_
     refine o_val (v_eql rfl rfl) rfl ?_
     refine o_val (v_assign rfl) rfl ?_
     refine o_nil ?_
     refine thn_n ?_
     first | refine w_condD rfl (fun h56 => ?_) (fun h56 => ?_) | refine w_cond rfl (fun h56 => ?_) (fun h56 => ?_)
     ·
      rcases (InfP.ex_or (InfP.told B (s.at_ + 3))) with ⟨e, ht⟩ | ⟨⟨x3, ll, dl⟩, ht⟩
      ·
       refine w_region ?_
       refine o_val (v_move rfl) rfl ?_
       refine o_callE ((c_told b bl sz mo po s.out.length co li di { s with kind := (BitP.numL B (s.at_ + 1) 2), last := (decide (BitP.numL B s.at_ 1 = 1)) } B (s.at_ + 3) hl hB (by omega)).err ht) V.b50 rfl (.cons (by repeat first | exact .head | apply Rem.tail) (.cons (by repeat first | exact .head | apply Rem.tail) .nil)) ?_
       rintro _ _ ⟨hp, rfl⟩
       refine (blk_p ?_)
       exact pe_pan (InfP.beg_dn hx1 (by omega) ht) hp (sub (.cons (by repeat first | exact .head | apply Rem.tail) .nil) (by repeat first | exact .refl | apply Drop.skip))
      ·
       refine w_region ?_
       refine o_val (v_move rfl) rfl ?_
       refine o_call ((c_told b bl sz mo po s.out.length co li di { s with kind := (BitP.numL B (s.at_ + 1) 2), last := (decide (BitP.numL B s.at_ 1 = 1)) } B (s.at_ + 3) hl hB (by omega)).ok ht) V.b50  rfl (.cons (by repeat first | exact .head | apply Rem.tail) (.cons (by repeat first | exact .head | apply Rem.tail) .nil)) rfl ?_
       rintro _ _ ⟨lb, db, rfl, rfl⟩
       refine o_nil ?_
       refine blk_n ?_
       have hk2 : (BitP.numL B (s.at_ + 1) 2) = 2 := by omega
       rw [hk2]
       exact pe_end (x := { s with at_ := x3, kind := 2, last := (decide (BitP.numL B s.at_ 1 = 1)), lits := ll, dist := dl }) (InfP.beg_dy hx1 hk2 ht) res0 ⟨rfl, rfl⟩ ((fold' (.cons (by repeat first | exact .head | apply Rem.tail) (.cons (by repeat first | exact .head | apply Rem.tail) .nil)) .refl (fun w0 h hh => ms_close (s := { s with at_ := x3, kind := 2, last := (decide (BitP.numL B s.at_ 1 = 1)), lits := ll, dist := dl }) rfl hh)).trans (fold' (.cons (by repeat first | exact .head | apply Rem.tail) (.cons (by repeat first | exact .head | apply Rem.tail) (.cons (by repeat first | exact .head | apply Rem.tail) (.cons (by repeat first | exact .head | apply Rem.tail) .nil)))) (by repeat first | exact .refl | apply Drop.skip) (fun w0 h hh => mm_closeC (s := { s with at_ := x3, kind := 2, last := (decide (BitP.numL B s.at_ 1 = 1)), lits := ll, dist := dl }) hh)))
     ·
      refine w_region ?_
      refine o_callE (c_mustE 4) V.b47 rfl .nil ?_
      rintro _ _ ⟨rfl, rfl⟩
      refine (blk_p ?_)
      exact pe_pan (InfP.beg_no hx1 (by omega) (by omega) (by omega)) (PE.no (by decide)) (fold' (.cons (by repeat first | exact .head | apply Rem.tail) .nil) (by repeat first | exact .refl | apply Drop.skip) (fun w0 h hh => mx_close hh))
end Go.Proofs.Ytoplcgkafaoafaa

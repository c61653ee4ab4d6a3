/- Steps of the proof: the walks of the functions that the statement reaches; printed by a program of ours. -/
import Derived.Test.YtmclopghpnndnaaM29
import Derived.Test.YtmclopghpnndnaaM26
import Derived.Test.YtmclopghpnndnaaHuffH
/-
  Readers of bits in memory.
-/
namespace Go.Sl
abbrev U5 : Ec Int := ecI 5 .u8
structure Lv where
  p1 : Option Addr
  c1 : Nat
  p2 : Option Addr
  c2 : Nat
/-- A machine of bits: what it reads, where it is; what it wrote, what is free. -/
def LW (b : Nat) (B : List Int) (at_ : Nat) (out : List Int) (free : Int) : HProp := fun w0 h => ∃ i : Lv, True ∧ sats w0 [Cel b 70 [.slice i.p1 B.length i.c1, .slice i.p2 out.length i.c2, .int .i64 (at_ : Int), .int .i64 free], Row U5 i.p1 B.length i.c1 B, Row U5 i.p2 out.length i.c2 out] h
theorem lw_close {b at_ : Nat} {p1 p2 : Option Addr} {c1 c2 : Nat} {B out : List Int} {free : Int} {w0 : World} {h : Hp}
    (hh : sats w0 [Cel b 70 [.slice p1 B.length c1, .slice p2 out.length c2, .int .i64 (at_ : Int), .int .i64 free], Row U5 p1 B.length c1 B, Row U5 p2 out.length c2 out] h) : LW b B at_ out free w0 h := ⟨⟨p1, c1, p2, c2⟩, trivial, hh⟩
/-- A machine of bits that wrote them. -/
def WB (b : Nat) (bs : List Int) : HProp := fun w0 h => ∃ i : List Int × Nat, (BitP.Pk bs i.1 i.2 ∧ i.2 < 8) ∧ sats w0 [LW b [] 0 i.1 (i.2 : Int)] h
end Go.Sl

/-
  Steps of the proof: walks of functions that the statement reaches; printed by a program of ours.
-/
namespace Go.Proofs.Ytmclopghpnndnaa
open Go.Sl 
set_option linter.unusedVariables false
set_option linter.unusedSimpArgs false

set_option maxRecDepth 100000 in
theorem c_clone (p : Option Addr) (cap : Nat) (B : List Int) (R : HProp) (hR : ∀ w0 h, R w0 h → RdR U5 p B.length B w0 h) (hl : B.length < 500000000) : Ctr Try.prog 32 [.slice p B.length cap] [R] (Ret fun v G => ∃ q c, v = .slice q B.length c ∧ G = [Row U5 q B.length c B, R]) := by
  refine spec_of [(0, _)] Try.func32 rfl Try.ntmps32 rfl rfl ?_
  intro w0 F
  refine w_fact (fun w hi => rd_nil (List.mem_cons_self ..) hR hi) (fun hp => ?_)
  refine w_seq ?_
  refine w_region ?_
  refine o_val (v_assign rfl) rfl ?_
  refine o_nil ?_
  refine thn_n ?_
  refine w_seq ?_
  refine w_seq ?_
  refine w_region ?_
  refine o_val (v_move rfl) rfl ?_
  refine o_val (v_eqnilS Try.underlying35 rfl rfl) rfl ?_
  refine o_nil ?_
  refine thn_n ?_
  first | refine w_condD rfl (fun h4 => ?_) (fun h4 => ?_) | refine w_cond rfl (fun h4 => ?_) (fun h4 => ?_)
  ·
    refine w_seq ?_
    refine w_region ?_
    refine o_val (v_assign rfl) rfl ?_
    refine o_nil ?_
    refine thn_n ?_
    refine w_ret ?_
    refine (thn_r ?_)
    obtain rfl : p = none := by cases p with | none => rfl | some _ => simp at h4
    obtain rfl : B = [] := hp rfl
    exact ret_ok (G := [Row U5 none 0 0 [], R]) (res1 rfl) ⟨none, 0, rfl, rfl⟩ ((sub_add0 (fun w0 => Row.nil _ _ _)).trans (sub (.cons (by repeat first | exact .head | apply Rem.tail) (.cons (by repeat first | exact .head | apply Rem.tail) .nil)) (by repeat first | exact .refl | apply Drop.skip)))
  ·
    refine w_skip ?_
    refine thn_n ?_
    refine w_seq ?_
    refine w_region ?_
    refine r_build (U5) [] V.sl35 V.z5 rfl rfl rfl rfl rfl rfl ?_
    intro b5
    refine o_val (v_move rfl) rfl ?_
    refine r_append (c := (U5)) V.sl35 V.z5 rfl rfl rfl rfl (by repeat first | exact .head | apply Rem.tail) (by first | exact own mm0 | exact own mm1 | exact own mm2 | exact own mm3 | exact own mm4 | exact own mm5 | exact own mm6 | exact own mm7 | exact own mm8 | exact own mm9 | exact own mm10 | exact own mm11 | exact rdH hR mm0 | exact rdH hR mm1 | exact rdH hR mm2 | exact rdH hR mm3 | exact rdH hR mm4 | exact rdH hR mm5 | exact rdH hR mm6 | exact rdH hR mm7 | exact rdH hR mm8 | exact rdH hR mm9 | exact rdH hR mm10 | exact rdH hR mm11) (by omega) rfl ?_
    intro p7 c7
    refine o_val (v_assign rfl) rfl ?_
    refine o_nil ?_
    refine thn_n ?_
    refine w_ret ?_
    exact ret_ok (G := [Row U5 p7 (0 + B.length) c7 ([] ++ B), R]) (res1 rfl) ⟨p7, c7, by rw [Nat.zero_add], by rw [Nat.zero_add, List.nil_append]⟩ (sub (.cons (by repeat first | exact .head | apply Rem.tail) (.cons (by repeat first | exact .head | apply Rem.tail) .nil)) (by repeat first | exact .refl | apply Drop.skip))

set_option maxRecDepth 100000 in
theorem c_left (b : Nat) (B : List Int) (at_ : Nat) (out : List Int) (free : Int) (hl : B.length < 500000000) (ha : at_ ≤ 8 * B.length) : Ctr Try.prog 36 [.pointer (some ⟨b, 0, none⟩)] [LW b B at_ out free] (Ret fun v G => v = .int .i64 (8 * (B.length : Int) - (at_ : Int)) ∧ G = [LW b B at_ out free]) := by
  refine spec_of [(0, _)] Try.func36 rfl Try.ntmps36 rfl rfl ?_
  intro w0 F
  refine w_opn (fun h hh => hh) ?_
  rintro ⟨p1, c1, p2, c2⟩ _
  dsimp only
  refine w_seq ?_
  refine w_region ?_
  refine o_val (v_assign rfl) rfl ?_
  refine o_nil ?_
  refine thn_n ?_
  refine w_seq ?_
  refine w_net [⟨[], [], [0], 0, 0⟩, ⟨[0], [0], [], 0, 0⟩, ⟨[0, 1], [1], [], 0, 0⟩, ⟨[0, 1, 2], [2], [], 0, 0⟩, ⟨[0, 1, 2, 3], [3], [], 0, 0⟩, ⟨[0, 1, 2, 3, 4], [4], [], 0, 0⟩, ⟨[], [], [0], 0, 0⟩, ⟨[6], [6], [], 0, 0⟩, ⟨[6, 7], [7], [], 0, 0⟩, ⟨[6, 7, 8], [8], [], 0, 0⟩, ⟨[0, 1, 2, 3, 4, 5, 6, 7, 8, 9], [5, 9], [], 0, 0⟩, ⟨[0, 1, 2, 3, 4, 5, 6, 7, 8, 9, 10], [10], [], 0, 0⟩] [⟨fun y => Cel b 70 [.slice p1 B.length c1, .slice p2 out.length c2, .int .i64 (at_ : Int), .int .i64 free], none, none, [3, 9]⟩, ⟨fun y => Row U5 p1 B.length c1 B, none, none, []⟩, ⟨fun y => Row U5 p2 out.length c2 out, none, none, []⟩] F V.mixed (by kernel_rfl) rfl (fun _ => .refl _) (locT_0 _ (locT_0 _ (locT_0 _ locT_nil))) ?_
  refine net_pure (fun y => [(0, _)]) (fun y => rfl) rfl rfl rfl (fun y hA L => st_v (v_move rfl) ⟨rfl, rfl⟩) (by intros; rfl) (by intro y y2 h; rfl) ?_
  refine net_pure (fun y => [(3, _)]) (fun y => rfl) rfl rfl rfl (fun y hA L => st_v (v_nil rfl) ⟨rfl, rfl⟩) (by intros; rfl) (by intro y y2 h; rfl) ?_
  refine net_pure (fun y => [(4, _)]) (fun y => rfl) rfl rfl rfl (fun y hA L => st_v (v_fieldAddr V.f68_0 rfl) ⟨rfl, rfl⟩) (by intros; rfl) (by intro y y2 h; rfl) ?_
  refine net_read (fun y => [Cel b 70 [.slice p1 B.length c1, .slice p2 out.length c2, .int .i64 (at_ : Int), .int .i64 free]]) (fun y => [(5, _)]) (fun y => rfl) rfl (fun y => rfl) rfl (fun y FF hA => st_v (v_load V.s35 rfl (by repeat first | exact .head _ | apply List.Mem.tail) rfl) ⟨rfl, rfl⟩) (by intros; rfl) (by intro y y2 h; rfl) ?_
  refine net_pure (fun y => [(6, _)]) (fun y => rfl) rfl rfl rfl (fun y hA L => st_v (v_len (ty' := 0) Try.underlying35 rfl) ⟨rfl, rfl⟩) (by intros; rfl) (by intro y y2 h; rfl) ?_
  refine net_pure (fun y => [(7, _)]) (fun y => rfl) rfl rfl rfl (fun y hA L => st_v (v_mul rfl rfl (wrapI (by omega) (by omega))) ⟨rfl, rfl⟩) (by intros; rfl) (by intro y y2 h; rfl) ?_
  refine net_pure (fun y => [(0, _)]) (fun y => rfl) rfl rfl rfl (fun y hA L => st_v (v_move rfl) ⟨rfl, rfl⟩) (by intros; rfl) (by intro y y2 h; rfl) ?_
  refine net_pure (fun y => [(9, _)]) (fun y => rfl) rfl rfl rfl (fun y hA L => st_v (v_nil rfl) ⟨rfl, rfl⟩) (by intros; rfl) (by intro y y2 h; rfl) ?_
  refine net_pure (fun y => [(10, _)]) (fun y => rfl) rfl rfl rfl (fun y hA L => st_v (v_fieldAddr V.f68_2 rfl) ⟨rfl, rfl⟩) (by intros; rfl) (by intro y y2 h; rfl) ?_
  refine net_read (fun y => [Cel b 70 [.slice p1 B.length c1, .slice p2 out.length c2, .int .i64 (at_ : Int), .int .i64 free]]) (fun y => [(11, _)]) (fun y => rfl) rfl (fun y => rfl) rfl (fun y FF hA => st_v (v_load V.s3 rfl (by repeat first | exact .head _ | apply List.Mem.tail) rfl) ⟨rfl, rfl⟩) (by intros; rfl) (by intro y y2 h; rfl) ?_
  refine net_pure (fun y => [(8, _), (12, _)]) (fun y => rfl) rfl rfl rfl (fun y hA L => st_v (v_sub rfl rfl (wrapI (by omega) (by omega))) ⟨rfl, rfl⟩) (by intros; rfl) (by intro y y2 h; rfl) ?_
  refine net_pure (fun y => [(13, _)]) (fun y => rfl) rfl rfl rfl (fun y hA L => st_v (v_assign rfl) ⟨rfl, rfl⟩) (by intros; rfl) (by intro y y2 h; rfl) ?_
  refine net_nil ?_
  intro y hA
  clear hA
  refine thn_n ?_
  refine w_keep _ (.cons (d := 2) rfl (.nil _)) ?_
  refine w_sub (M := Cel b 70 [.slice p1 B.length c1, .slice p2 out.length c2, .int .i64 (at_ : Int), .int .i64 free] :: Row U5 p1 B.length c1 B :: Row U5 p2 out.length c2 out :: F) (fun _ _ h => h) ?_
  refine w_ret ?_
  exact ret_ok (G := [LW b B at_ out free]) (res1 rfl) ⟨rfl, rfl⟩ (fold' (.cons (by repeat first | exact .head | apply Rem.tail) (.cons (by repeat first | exact .head | apply Rem.tail) (.cons (by repeat first | exact .head | apply Rem.tail) .nil))) (by repeat first | exact .refl | apply Drop.skip) (fun w0 h hh => lw_close hh))

set_option maxRecDepth 100000 in
theorem c_ask (b : Nat) (B : List Int) (at_ : Nat) (out : List Int) (free : Int) (n : Int) (hl : B.length < 500000000) (ha : at_ ≤ 8 * B.length) (hn : 0 ≤ n ∧ n ≤ 24 ∧ n ≤ 8 * (B.length : Int) - at_) : Ctr Try.prog 45 [.pointer (some ⟨b, 0, none⟩), .int .i64 n] [LW b B at_ out free] (Ret fun v G => v = .tuple #[] ∧ G = [LW b B at_ out free]) := by
  refine spec_of [(0, _), (1, _)] Try.func45 rfl Try.ntmps45 rfl rfl ?_
  intro w0 F
  refine w_seq ?_
  refine w_region ?_
  refine o_val (v_move rfl) rfl ?_
  refine o_val (v_F (v_lss rfl rfl) (by omega)) rfl ?_
  refine o_val (v_move rfl) rfl ?_
  refine o_want rfl ?_
  refine o_val (v_move rfl) rfl ?_
  refine o_want rfl ?_
  refine o_val (v_F (v_gtr rfl rfl) (by omega)) rfl ?_
  refine o_val (v_pickF rfl rfl) rfl ?_
  refine o_val (v_move rfl) rfl ?_
  refine o_want rfl ?_
  refine o_val (v_move rfl) rfl ?_
  refine o_want rfl ?_
  refine o_val (v_move rfl) rfl ?_
  refine o_want rfl ?_
  refine o_call (c_left b B at_ out free hl ha) V.b36  rfl (.cons (by repeat first | exact .head | apply Rem.tail) .nil) rfl ?_
  rintro _ _ ⟨rfl, rfl⟩
  refine o_want rfl ?_
  refine o_val (v_F (v_gtr rfl rfl) (by omega)) rfl ?_
  refine o_val (v_pickF rfl rfl) rfl ?_
  refine o_nil ?_
  refine thn_n ?_
  refine w_condF rfl ?_
  refine w_skip ?_
  exact end_ok (G := [LW b B at_ out free]) res0 ⟨rfl, rfl⟩ (sub (.cons (by repeat first | exact .head | apply Rem.tail) .nil) (by repeat first | exact .refl | apply Drop.skip))

set_option maxRecDepth 100000 in
theorem c_askE (b : Nat) (B : List Int) (at_ : Nat) (out : List Int) (free : Int) (n : Int) (hl : B.length < 500000000) (ha : at_ ≤ 8 * B.length) (hn : 0 ≤ n ∧ n ≤ 24 ∧ 8 * (B.length : Int) - at_ < n) : Ctr Try.prog 45 [.pointer (some ⟨b, 0, none⟩), .int .i64 n] [LW b B at_ out free] (Pan fun ch G => ch = pan1 89 (.agg #[]) ∧ G = [LW b B at_ out free]) := by
  refine spec_of [(0, _), (1, _)] Try.func45 rfl Try.ntmps45 rfl rfl ?_
  intro w0 F
  refine w_seq ?_
  refine w_region ?_
  refine o_val (v_move rfl) rfl ?_
  refine o_val (v_F (v_lss rfl rfl) (by omega)) rfl ?_
  refine o_val (v_move rfl) rfl ?_
  refine o_want rfl ?_
  refine o_val (v_move rfl) rfl ?_
  refine o_want rfl ?_
  refine o_val (v_F (v_gtr rfl rfl) (by omega)) rfl ?_
  refine o_val (v_pickF rfl rfl) rfl ?_
  refine o_val (v_move rfl) rfl ?_
  refine o_want rfl ?_
  refine o_val (v_move rfl) rfl ?_
  refine o_want rfl ?_
  refine o_val (v_move rfl) rfl ?_
  refine o_want rfl ?_
  refine o_call (c_left b B at_ out free hl ha) V.b36  rfl (.cons (by repeat first | exact .head | apply Rem.tail) .nil) rfl ?_
  rintro _ _ ⟨rfl, rfl⟩
  refine o_want rfl ?_
  refine o_val (v_T (v_gtr rfl rfl) (by omega)) rfl ?_
  refine o_val (v_pickF rfl rfl) rfl ?_
  refine o_nil ?_
  refine thn_n ?_
  refine w_condT rfl ?_
  refine w_region ?_
  refine o_val (v_build V.pl89 V.z89 rfl (cs := []) rfl) rfl ?_
  refine o_val (v_iface V.c89 rfl) rfl ?_
  refine o_panic rfl ?_
  skip
  exact pan_ok (G := [LW b B at_ out free]) ⟨rfl, rfl⟩ (sub (.cons (by repeat first | exact .head | apply Rem.tail) .nil) (by repeat first | exact .refl | apply Drop.skip))

set_option maxRecDepth 100000 in
theorem c_next (b : Nat) (B : List Int) (at_ : Nat) (out : List Int) (free : Int) (hl : B.length < 500000000) (hB : BitP.Byt B) (ha : at_ < 8 * B.length) : Ctr Try.prog 46 [.pointer (some ⟨b, 0, none⟩)] [LW b B at_ out free] (Ret fun v G => v = .int .i64 (BitP.bitL B at_) ∧ G = [LW b B (at_ + 1) out free]) := by
  refine spec_of [(0, _)] Try.func46 rfl Try.ntmps46 rfl rfl ?_
  intro w0 F
  refine w_opn (fun h hh => hh) ?_
  rintro ⟨p1, c1, p2, c2⟩ _
  dsimp only
  have hq : U5.g B ((at_ : Int) / 8) = B.getD (at_ / 8) 0 := gE (at_ / 8) (by omega)
  have hb := hB.get (at_ / 8)
  have hd := BitP.div_byte hb.1 hb.2 (at_ % 8)
  have hb2 := BitP.bitL_01 B at_
  refine w_seq ?_
  refine w_region ?_
  refine o_val (v_assign rfl) rfl ?_
  refine o_nil ?_
  refine thn_n ?_
  refine w_seq ?_
  refine w_net [⟨[], [], [0], 0, 0⟩, ⟨[0], [0], [], 0, 0⟩, ⟨[0, 1], [1], [], 0, 0⟩, ⟨[0, 1, 2], [2], [], 0, 0⟩, ⟨[0, 1, 2, 3], [3], [], 0, 0⟩, ⟨[], [], [0], 0, 0⟩, ⟨[5], [5], [], 0, 0⟩, ⟨[5, 6], [6], [], 0, 0⟩, ⟨[5, 6, 7], [7], [], 0, 0⟩, ⟨[5, 6, 7, 8], [8], [], 0, 0⟩, ⟨[5, 6, 7, 8, 9], [9], [], 0, 0⟩, ⟨[0, 1, 2, 3, 4, 5, 6, 7, 8, 9, 10], [4, 10], [], 0, 0⟩, ⟨[0, 1, 2, 3, 4, 5, 6, 7, 8, 9, 10, 11], [11], [], 0, 0⟩, ⟨[], [], [0], 0, 0⟩, ⟨[13], [13], [], 0, 0⟩, ⟨[13, 14], [14], [], 0, 0⟩, ⟨[13, 14, 15], [15], [], 0, 0⟩, ⟨[13, 14, 15, 16], [16], [], 0, 0⟩, ⟨[13, 14, 15, 16, 17], [17], [], 0, 0⟩, ⟨[0, 1, 2, 3, 4, 5, 6, 7, 8, 9, 10, 11, 12, 13, 14, 15, 16, 17, 18], [12, 18], [], 0, 0⟩, ⟨[0, 1, 2, 3, 4, 5, 6, 7, 8, 9, 10, 11, 12, 13, 14, 15, 16, 17, 18, 19], [19], [], 0, 0⟩] [⟨fun y => Cel b 70 [.slice p1 B.length c1, .slice p2 out.length c2, .int .i64 (at_ : Int), .int .i64 free], none, none, [4, 9, 17]⟩, ⟨fun y => Row U5 p1 B.length c1 B, none, none, [11, 12]⟩, ⟨fun y => Row U5 p2 out.length c2 out, none, none, []⟩] F V.mixed (by kernel_rfl) rfl (fun _ => .refl _) (locT_0 _ (locT_0 _ (locT_0 _ locT_nil))) ?_
  refine net_pure (fun y => [(0, _)]) (fun y => rfl) rfl rfl rfl (fun y hA L => st_v (v_move rfl) ⟨rfl, rfl⟩) (by intros; rfl) (by intro y y2 h; rfl) ?_
  refine net_pure (fun y => [(4, _)]) (fun y => rfl) rfl rfl rfl (fun y hA L => st_v (v_nil rfl) ⟨rfl, rfl⟩) (by intros; rfl) (by intro y y2 h; rfl) ?_
  refine net_pure (fun y => [(5, _)]) (fun y => rfl) rfl rfl rfl (fun y hA L => st_v (v_fieldAddr V.f70_0 rfl) ⟨rfl, rfl⟩) (by intros; rfl) (by intro y y2 h; rfl) ?_
  refine net_pure (fun y => [(6, _)]) (fun y => rfl) rfl rfl rfl (fun y hA L => st_v (v_fieldAddr V.f68_0 rfl) ⟨rfl, rfl⟩) (by intros; rfl) (by intro y y2 h; rfl) ?_
  refine net_read (fun y => [Cel b 70 [.slice p1 B.length c1, .slice p2 out.length c2, .int .i64 (at_ : Int), .int .i64 free]]) (fun y => [(7, _)]) (fun y => rfl) rfl (fun y => rfl) rfl (fun y FF hA => st_v (v_load V.s35 rfl (by repeat first | exact .head _ | apply List.Mem.tail) rfl) ⟨rfl, rfl⟩) (by intros; rfl) (by intro y y2 h; rfl) ?_
  refine net_pure (fun y => [(0, _)]) (fun y => rfl) rfl rfl rfl (fun y hA L => st_v (v_move rfl) ⟨rfl, rfl⟩) (by intros; rfl) (by intro y y2 h; rfl) ?_
  refine net_pure (fun y => [(9, _)]) (fun y => rfl) rfl rfl rfl (fun y hA L => st_v (v_nil rfl) ⟨rfl, rfl⟩) (by intros; rfl) (by intro y y2 h; rfl) ?_
  refine net_pure (fun y => [(10, _)]) (fun y => rfl) rfl rfl rfl (fun y hA L => st_v (v_fieldAddr V.f70_0 rfl) ⟨rfl, rfl⟩) (by intros; rfl) (by intro y y2 h; rfl) ?_
  refine net_pure (fun y => [(11, _)]) (fun y => rfl) rfl rfl rfl (fun y hA L => st_v (v_fieldAddr V.f68_2 rfl) ⟨rfl, rfl⟩) (by intros; rfl) (by intro y y2 h; rfl) ?_
  refine net_read (fun y => [Cel b 70 [.slice p1 B.length c1, .slice p2 out.length c2, .int .i64 (at_ : Int), .int .i64 free]]) (fun y => [(12, _)]) (fun y => rfl) rfl (fun y => rfl) rfl (fun y FF hA => st_v (v_load V.s3 rfl (by repeat first | exact .head _ | apply List.Mem.tail) rfl) ⟨rfl, rfl⟩) (by intros; rfl) (by intro y y2 h; rfl) ?_
  refine net_pure (fun y => [(13, _)]) (fun y => rfl) rfl rfl rfl (fun y hA L => st_v (v_quo rfl rfl (by omega) (quoI (by omega) (by omega) (by omega))) ⟨rfl, rfl⟩) (by intros; rfl) (by intro y y2 h; rfl) ?_
  refine net_read (fun y => [Row U5 p1 B.length c1 B]) (fun y => [(8, _), (14, _)]) (fun y => rfl) rfl (fun y => rfl) rfl (fun y FF hA => st_v (r_index (c := (U5)) V.sl35 rfl rfl (own (by repeat first | exact .head _ | apply List.Mem.tail)) (by omega) (by omega)) ⟨rfl, rfl⟩) (by intros; rfl) (by intro y y2 h; rfl) ?_
  refine net_read (fun y => [Row U5 p1 B.length c1 B]) (fun y => [(15, _)]) (fun y => rfl) rfl (fun y => rfl) rfl (fun y FF hA => st_v (r_load (c := (U5)) V.s5 rfl (own (by repeat first | exact .head _ | apply List.Mem.tail)) (by omega) (by omega) rfl rfl) ⟨rfl, rfl⟩) (by intros; rfl) (by intro y y2 h; rfl) ?_
  refine net_pure (fun y => [(0, _)]) (fun y => rfl) rfl rfl rfl (fun y hA L => st_v (v_move rfl) ⟨rfl, rfl⟩) (by intros; rfl) (by intro y y2 h; rfl) ?_
  refine net_pure (fun y => [(17, _)]) (fun y => rfl) rfl rfl rfl (fun y hA L => st_v (v_nil rfl) ⟨rfl, rfl⟩) (by intros; rfl) (by intro y y2 h; rfl) ?_
  refine net_pure (fun y => [(18, _)]) (fun y => rfl) rfl rfl rfl (fun y hA L => st_v (v_fieldAddr V.f70_0 rfl) ⟨rfl, rfl⟩) (by intros; rfl) (by intro y y2 h; rfl) ?_
  refine net_pure (fun y => [(19, _)]) (fun y => rfl) rfl rfl rfl (fun y hA L => st_v (v_fieldAddr V.f68_2 rfl) ⟨rfl, rfl⟩) (by intros; rfl) (by intro y y2 h; rfl) ?_
  refine net_read (fun y => [Cel b 70 [.slice p1 B.length c1, .slice p2 out.length c2, .int .i64 (at_ : Int), .int .i64 free]]) (fun y => [(20, _)]) (fun y => rfl) rfl (fun y => rfl) rfl (fun y FF hA => st_v (v_load V.s3 rfl (by repeat first | exact .head _ | apply List.Mem.tail) rfl) ⟨rfl, rfl⟩) (by intros; rfl) (by intro y y2 h; rfl) ?_
  refine net_pure (fun y => [(21, _)]) (fun y => rfl) rfl rfl rfl (fun y hA L => st_v (v_rem rfl rfl (by omega) (remI (by omega))) ⟨rfl, rfl⟩) (by intros; rfl) (by intro y y2 h; rfl) ?_
  refine net_pure (fun y => [(16, _), (22, _)]) (fun y => rfl) rfl rfl rfl (fun y hA L => st_v (v_shr (r := B.getD (at_ / 8) 0 / 2 ^ (at_ % 8)) rfl rfl (by omega) (by rw [hq]; exact BitP.shr8 hb.1 (by omega) (by omega))) ⟨rfl, rfl⟩) (by intros; rfl) (by intro y y2 h; rfl) ?_
  refine net_pure (fun y => [(23, _)]) (fun y => rfl) rfl rfl rfl (fun y hA L => st_v (v_assign rfl) ⟨rfl, rfl⟩) (by intros; rfl) (by intro y y2 h; rfl) ?_
  refine net_nil ?_
  intro y hA
  clear hA
  refine thn_n ?_
  refine w_keep _ (.cons (d := 0) rfl (.cons (d := 3) rfl (.nil _))) ?_
  refine w_sub (M := Cel b 70 [.slice p1 B.length c1, .slice p2 out.length c2, .int .i64 (at_ : Int), .int .i64 free] :: Row U5 p1 B.length c1 B :: Row U5 p2 out.length c2 out :: F) (fun _ _ h => h) ?_
  refine w_seq ?_
  refine w_region ?_
  refine o_val (v_move rfl) rfl ?_
  refine o_val (v_nil rfl) rfl ?_
  refine o_val (v_fieldAddr V.f70_0 rfl) rfl ?_
  refine o_val (v_fieldAddr V.f68_2 rfl) rfl ?_
  refine o_val (v_load V.s3 rfl (by repeat first | exact .head _ | apply List.Mem.tail) rfl) rfl ?_
  refine o_val (v_add rfl rfl (wrapI (by omega) (by omega))) rfl ?_
  refine o_val (v_nil rfl) rfl ?_
  refine o_val (v_fieldAddr V.f70_0 rfl) rfl ?_
  refine o_val (v_fieldAddr V.f68_2 rfl) rfl ?_
  refine o_eff (v_store V.s3 rfl rfl rfl (by repeat first | exact .head | apply Rep.tail) (by exact Nat.le_of_ble_eq_true rfl) rfl) ?_
  refine o_nil ?_
  refine thn_n ?_
  refine w_seq ?_
  refine w_region ?_
  refine o_val (v_move rfl) rfl ?_
  refine o_val (v_and (r := BitP.bitL B at_) rfl rfl (BitP.and_one8 hd.1 hd.2)) rfl ?_
  refine o_val (v_conv V.u5 Try.underlying3 rfl (wrapI (by omega) (by omega))) rfl ?_
  refine o_val (v_assign rfl) rfl ?_
  refine o_nil ?_
  refine thn_n ?_
  refine w_ret ?_
  rw [show (at_ : Int) + 1 = ((at_ + 1 : Nat) : Int) from by omega]
  exact ret_ok (G := [LW b B (at_ + 1) out free]) (res1 rfl) ⟨rfl, rfl⟩ (fold' (.cons (by repeat first | exact .head | apply Rem.tail) (.cons (by repeat first | exact .head | apply Rem.tail) (.cons (by repeat first | exact .head | apply Rem.tail) .nil))) (by repeat first | exact .refl | apply Drop.skip) (fun w0 h hh => lw_close hh))

set_option maxRecDepth 100000 in
theorem c_take (b : Nat) (B : List Int) (at_ : Nat) (out : List Int) (free : Int) (n : Nat) (hl : B.length < 500000000) (hB : BitP.Byt B) (hn : n ≤ 24) (ha : at_ + n ≤ 8 * B.length) : Ctr Try.prog 34 [.pointer (some ⟨b, 0, none⟩), .int .i64 (n : Int)] [LW b B at_ out free] (Ret fun v G => v = .int .i64 (BitP.numL B at_ n) ∧ G = [LW b B (at_ + n) out free]) := by
  refine spec_of [(0, _), (1, _)] Try.func34 rfl Try.ntmps34 rfl rfl ?_
  intro w0 F
  refine w_seq ?_
  refine w_region ?_
  refine o_val (v_assign rfl) rfl ?_
  refine o_nil ?_
  refine thn_n ?_
  refine w_seq ?_
  refine w_region ?_
  refine o_val (v_move rfl) rfl ?_
  refine o_val (v_nil rfl) rfl ?_
  refine o_val (v_fieldAddr V.f70_0 rfl) rfl ?_
  refine o_val (v_move rfl) rfl ?_
  refine o_call (c_ask b B at_ out free n hl (by omega) (by omega)) V.b45  rfl (.cons (by repeat first | exact .head | apply Rem.tail) .nil) rfl ?_
  rintro _ _ ⟨rfl, rfl⟩
  refine o_nil ?_
  refine thn_n ?_
  refine w_seq ?_
  refine w_region ?_
  refine o_val (v_assign rfl) rfl ?_
  refine o_nil ?_
  refine thn_n ?_
  refine w_seq ?_
  refine w_seq ?_
  refine w_region ?_
  refine o_val (v_move rfl) rfl ?_
  refine o_val (v_move rfl) rfl ?_
  refine o_nil ?_
  refine thn_n ?_
  refine w_block ?_
  refine w_loop1 (fun (k : Nat) => [(0, .pointer (some ⟨b, 0, none⟩)), (5, .int .i64 (BitP.numL B at_ k)), (12, .int .i64 (n : Int)), (13, .int .i64 (k : Int))]) (fun (k : Nat) => LW b B (at_ + k) out free :: F) (fun (k : Nat) => k ≤ n) (fun (k : Nat) => n - k) (i1 (0) ?_ (.cons rfl (.cons rfl (.cons rfl (.cons rfl (.nil _))))) (sub (.cons (by repeat first | exact .head | apply Rem.tail) .nil) (by repeat first | exact .refl | apply Drop.skip))) ?_
  ·
    exact Nat.zero_le _
  intro k
  rintro hk
  refine w_seq ?_
  refine w_region ?_
  refine o_val (v_lss rfl rfl) rfl ?_
  refine o_nil ?_
  refine thn_n ?_
  refine w_seq ?_
  first | refine w_condD rfl (fun h14 => ?_) (fun h14 => ?_) | refine w_cond rfl (fun h14 => ?_) (fun h14 => ?_)
  ·
    refine w_skip ?_
    refine thn_n ?_
    refine w_seq ?_
    refine w_block ?_
    refine w_seq ?_
    refine w_region ?_
    refine o_val (v_move rfl) rfl ?_
    refine o_val (v_assign rfl) rfl ?_
    refine o_nil ?_
    refine thn_n ?_
    have hb := BitP.bitL_01 B (at_ + k)
    have hnb := BitP.numL_bound B at_ k
    refine w_region ?_
    refine o_val (v_move rfl) rfl ?_
    refine o_val (v_move rfl) rfl ?_
    refine o_call (c_next b B (at_ + k) out free hl hB (by omega)) V.b46  rfl (.cons (by repeat first | exact .head | apply Rem.tail) .nil) rfl ?_
    rintro _ _ ⟨rfl, rfl⟩
    refine o_val (v_move rfl) rfl ?_
    refine o_val (v_shl (r := BitP.bitL B (at_ + k) * 2 ^ k) rfl rfl (by omega) (BitP.shl24 hb (by omega) rfl)) rfl ?_
    refine o_val (v_or (r := BitP.numL B at_ k + BitP.bitL B (at_ + k) * 2 ^ k) rfl rfl (BitP.or_up hnb.1 hnb.2 hb (by omega))) rfl ?_
    refine o_val (v_assign rfl) rfl ?_
    refine o_nil ?_
    refine blk_n ?_
    refine thn_n ?_
    refine w_region ?_
    refine o_val (v_add rfl rfl (wrapI (by omega) (by omega))) rfl ?_
    refine o_val (v_move rfl) rfl ?_
    refine o_nil ?_
    refine j1 (k + 1) ?_ (.cons rfl (.cons rfl (.cons rfl (.cons rfl (.nil _))))) (sub (.cons (by repeat first | exact .head | apply Rem.tail) .nil) (by repeat first | exact .refl | apply Drop.skip))
    exact ⟨by omega, by omega⟩
  ·
    refine w_exit ?_
    refine thn_e ?_
    refine thn_e ?_
    refine blk_x ?_
    refine thn_n ?_
    refine w_seq ?_
    refine w_region ?_
    refine o_val (v_move rfl) rfl ?_
    refine o_val (v_assign rfl) rfl ?_
    refine o_nil ?_
    refine thn_n ?_
    refine w_ret ?_
    obtain rfl : k = n := by omega
    exact ret_ok (G := [LW b B (at_ + k) out free]) (res1 rfl) ⟨rfl, rfl⟩ (sub (.cons (by repeat first | exact .head | apply Rem.tail) .nil) (by repeat first | exact .refl | apply Drop.skip))

set_option maxRecDepth 100000 in
theorem c_takeE (b : Nat) (B : List Int) (at_ : Nat) (out : List Int) (free : Int) (n : Nat) (hl : B.length < 500000000) (hB : BitP.Byt B) (hn : n ≤ 24) (ha : at_ ≤ 8 * B.length) (hx : 8 * B.length < at_ + n) : Ctr Try.prog 34 [.pointer (some ⟨b, 0, none⟩), .int .i64 (n : Int)] [LW b B at_ out free] (Pan fun ch G => ch = pan1 89 (.agg #[]) ∧ G = [LW b B at_ out free]) := by
  refine spec_of [(0, _), (1, _)] Try.func34 rfl Try.ntmps34 rfl rfl ?_
  intro w0 F
  refine w_seq ?_
  refine w_region ?_
  refine o_val (v_assign rfl) rfl ?_
  refine o_nil ?_
  refine thn_n ?_
  refine w_seq ?_
  refine w_region ?_
  refine o_val (v_move rfl) rfl ?_
  refine o_val (v_nil rfl) rfl ?_
  refine o_val (v_fieldAddr V.f70_0 rfl) rfl ?_
  refine o_val (v_move rfl) rfl ?_
  refine o_callE (c_askE b B at_ out free n hl ha (by omega)) V.b45 rfl (.cons (by repeat first | exact .head | apply Rem.tail) .nil) ?_
  rintro _ _ ⟨rfl, rfl⟩
  refine (thn_p ?_)
  exact pan_ok (G := [LW b B at_ out free]) ⟨rfl, rfl⟩ (sub (.cons (by repeat first | exact .head | apply Rem.tail) .nil) (by repeat first | exact .refl | apply Drop.skip))

set_option maxRecDepth 100000 in
theorem c_newLow (p : Option Addr) (cap : Nat) (B : List Int) (R : HProp) (hR : ∀ w0 h, R w0 h → RdR U5 p B.length B w0 h) (hl : B.length < 500000000) : Ctr Try.prog 14 [.slice p B.length cap] [R] (Ret fun v G => ∃ b, v = .pointer (some ⟨b, 0, none⟩) ∧ G = [LW b B 0 [] 0, R]) := by
  refine spec_of [(0, _)] Try.func14 rfl Try.ntmps14 rfl rfl ?_
  intro w0 F
  refine w_seq ?_
  refine w_region ?_
  refine o_val (v_assign rfl) rfl ?_
  refine o_nil ?_
  refine thn_n ?_
  refine w_seq ?_
  refine w_region ?_
  refine o_val (v_move rfl) rfl ?_
  refine o_call (c_clone p cap B R hR hl) V.b32  rfl (.cons (by repeat first | exact .head | apply Rem.tail) .nil) rfl ?_
  rintro _ _ ⟨q, c, rfl, rfl⟩
  refine o_val (v_build V.pl68 V.z68 rfl (cs := [.slice q B.length c, .slice none 0 0, .int .i64 0, .int .i64 0]) rfl) rfl ?_
  refine o_val (v_build V.pl70 V.z70 rfl (cs := [.slice q B.length c, .slice none 0 0, .int .i64 0, .int .i64 0]) rfl) rfl ?_
  refine o_box rfl (cs := [.slice q B.length c, .slice none 0 0, .int .i64 0, .int .i64 0]) rfl rfl ?_
  intro b7
  refine o_val (v_assign rfl) rfl ?_
  refine o_nil ?_
  refine thn_n ?_
  refine w_ret ?_
  exact ret_ok (G := [LW b7 B 0 [] 0, R]) (res1 rfl) ⟨b7, rfl, rfl⟩ ((sub_add0 (A := Row U5 none 0 0 []) (fun w0 => Row.nil _ _ _)).trans ((fold' (.cons (by repeat first | exact .head | apply Rem.tail) (.cons (by repeat first | exact .head | apply Rem.tail) (.cons (by repeat first | exact .head | apply Rem.tail) .nil))) (by repeat first | exact .refl | apply Drop.skip) (fun w0 h hh => lw_close (p1 := q) (c1 := c) (p2 := none) (c2 := 0) (B := B) (out := []) (at_ := 0) (free := 0) hh)).trans (sub (.cons (by repeat first | exact .head | apply Rem.tail) (.cons (by repeat first | exact .head | apply Rem.tail) .nil)) (by repeat first | exact .refl | apply Drop.skip))))
end Go.Proofs.Ytmclopghpnndnaa

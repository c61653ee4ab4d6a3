/- Walks of functions that the law reaches, and what they lean on; no conditions. -/
import Derived.Test.YtookicfejdbddaaGreatM8
set_option linter.unusedVariables false
set_option linter.unusedSimpArgs false
set_option linter.unnecessarySimpa false
set_option maxRecDepth 100000
namespace Go.Proofs.YtookicfejdbddaaGreat
open Go.Sl 
attribute [local irreducible] BitP.Byt UsP.hi UsP.lo UsP.dn UsP.sg UsP.sizeE UsP.kind UsP.bgs UsP.sgn UsP.g7 UsP.g9 UsP.bm UsP.sid UsP.lst UsP.err UsP.pw UsP.ph UsP.cost UsP.room
theorem u_highP (p : Option Addr) (c : Nat) (B : List Int) (R : HProp) (hR : ∀ w0 h, R w0 h → RdR U5 p B.length B w0 h) (hB : BitP.Byt B) (hl : B.length < 500000000) (hcap : B.length ≤ c) (a : Nat) (n c2 : Nat) (hn : n = 4) (ha : a + 4 ≤ B.length) : Ctr Tryz.prog 237 [.slice (subP p a c 1) n c2] [R] (Ret fun v G => v = .int .i64 (UsP.hi B a 4) ∧ G = [R]) := by
  subst hn
  have h := u_high (subP p a c 1) c2 4 ((B.drop a).take 4) R (rdr_part rfl hR a (a + 4) 4 (by omega) ha hcap (by omega)) (UsP.take_len ha) (UsP.byt_take (UsP.byt_drop hB a) 4) (by decide)
  rwa [UsP.hi_sub B a 4 4 (by decide)] at h
theorem u_lowP (p : Option Addr) (c : Nat) (B : List Int) (R : HProp) (hR : ∀ w0 h, R w0 h → RdR U5 p B.length B w0 h) (hB : BitP.Byt B) (hl : B.length < 500000000) (hcap : B.length ≤ c) (a m : Nat) (n c2 : Nat) (hn : n = m) (hm : m ≤ 4) (ha : a + m ≤ B.length) : Ctr Tryz.prog 429 [.slice (subP p a c 1) n c2] [R] (Ret fun v G => v = .int .i64 (UsP.lo B a m) ∧ G = [R]) := by
  subst hn
  have h := u_low (subP p a c 1) c2 n ((B.drop a).take n) R (rdr_part rfl hR a (a + n) n (by omega) ha hcap (by omega)) (UsP.take_len ha) (UsP.byt_take (UsP.byt_drop hB a) n) hm
  rwa [UsP.lo_sub B a n n (by omega)] at h
set_option maxHeartbeats 1000000 in
theorem u_sidesP (p : Option Addr) (c : Nat) (B : List Int) (R : HProp) (hR : ∀ w0 h, R w0 h → RdR U5 p B.length B w0 h) (hB : BitP.Byt B) (hl : B.length < 500000000) (hcap : B.length ≤ c) (hL : 26 ≤ B.length) : Ctr Tryz.prog 233 [.agg #[], .slice p B.length c] [R] (Ret fun v G => v = .tuple #[.int .i64 (UsP.hi B 16 4), .int .i64 (UsP.hi B 20 4)] ∧ G = [R]) := by
  refine spec_of [(0, _), (1, _)] Tryz.func233 rfl Tryz.ntmps233 rfl rfl ?_
  intro w0 F
  refine w_seq ?_
  refine w_region ?_
  refine o_box rfl (cs := []) rfl rfl ?_
  intro b2
  refine o_val (v_assign rfl) rfl ?_
  refine o_val (v_assign rfl) rfl ?_
  refine o_nil ?_
  refine thn_n ?_
  refine w_seq ?_
  refine w_net [⟨[], [], [1], 0, 0⟩, ⟨[0], [0], [], 0, 0⟩, ⟨[0, 1], [1], [], 0, 0⟩, ⟨[], [], [1], 0, 0⟩, ⟨[3], [3], [], 0, 0⟩, ⟨[0, 1, 2, 3, 4], [4], [], 0, 0⟩, ⟨[0, 1, 2, 3, 4, 5], [2], [], 0, 0⟩, ⟨[0, 1, 2, 3, 4, 5, 6], [5], [], 0, 0⟩] [⟨fun y => Cel b2 207 [], none, none, []⟩, ⟨fun y => R, none, none, [2, 5]⟩] F W.mixed (by kernel_rfl) rfl (fun _ => .refl _) (locT_0 _ (locT_0 _ locT_nil)) ?_
  refine net_pure (fun y => [(1, _)]) (fun y => rfl) rfl rfl rfl (fun y hA L => st_v (v_move rfl) ⟨rfl, rfl⟩) (by intros; rfl) (by intro y y2 h; rfl) ?_
  refine net_pure (fun y => [(6, _)]) (fun y => rfl) rfl rfl rfl (fun y hA L => st_v (v_slice 16 20 c W.sl28 rfl ⟨_, rfl⟩ ⟨_, rfl⟩ rfl (by omega) (by omega) (by omega)) ⟨rfl, rfl⟩) (by intros; rfl) (by intro y y2 h; rfl) ?_
  refine net_eff (fun y => []) (fun y => [R]) (fun y => []) (fun y => [(7, _)]) (fun y => rfl) (fun y => rfl) (fun y => rfl) (fun y => rfl) (fun y FF hA => st_callN (Post := [R]) (u_highP p c B R hR hB hl hcap 16 (20 - 16) (c - 16) (by omega) (by omega)) W.b237 rfl (.cons (by repeat first | exact .head | apply Rem.tail) .nil) (fun v G h => by rcases h with ⟨rfl, rfl⟩; exact ⟨rfl, .refl _⟩)) (by intros; rfl) (by intros; rfl) (by intro y y2 h; rfl) ?_
  refine net_pure (fun y => [(1, _)]) (fun y => rfl) rfl rfl rfl (fun y hA L => st_v (v_move rfl) ⟨rfl, rfl⟩) (by intros; rfl) (by intro y y2 h; rfl) ?_
  refine net_pure (fun y => [(9, _)]) (fun y => rfl) rfl rfl rfl (fun y hA L => st_v (v_slice 20 24 c W.sl28 rfl ⟨_, rfl⟩ ⟨_, rfl⟩ rfl (by omega) (by omega) (by omega)) ⟨rfl, rfl⟩) (by intros; rfl) (by intro y y2 h; rfl) ?_
  refine net_eff (fun y => []) (fun y => [R]) (fun y => []) (fun y => [(10, _)]) (fun y => rfl) (fun y => rfl) (fun y => rfl) (fun y => rfl) (fun y FF hA => st_callN (Post := [R]) (u_highP p c B R hR hB hl hcap 20 (24 - 20) (c - 20) (by omega) (by omega)) W.b237 rfl (.cons (by repeat first | exact .head | apply Rem.tail) .nil) (fun v G h => by rcases h with ⟨rfl, rfl⟩; exact ⟨rfl, .refl _⟩)) (by intros; rfl) (by intros; rfl) (by intro y y2 h; rfl) ?_
  refine net_pure (fun y => [(8, _)]) (fun y => rfl) rfl rfl rfl (fun y hA L => st_v (v_assign rfl) ⟨rfl, rfl⟩) (by intros; rfl) (by intro y y2 h; rfl) ?_
  refine net_pure (fun y => [(11, _)]) (fun y => rfl) rfl rfl rfl (fun y hA L => st_v (v_assign rfl) ⟨rfl, rfl⟩) (by intros; rfl) (by intro y y2 h; rfl) ?_
  refine net_nil ?_
  intro y hA
  clear hA
  refine thn_n ?_
  refine w_keep _ (.cons (d := 4) rfl (.cons (d := 5) rfl (.nil _))) ?_
  refine w_sub (M := Cel b2 207 [] :: R :: F) (fun _ _ h => h) ?_
  refine w_ret ?_
  exact ret_ok (G := [R]) (res2 rfl rfl) ⟨rfl, rfl⟩ (sub (.cons (by repeat first | exact .head | apply Rem.tail) .nil) (by repeat first | exact .refl | apply Drop.skip))
set_option maxHeartbeats 1000000 in
theorem u_sidesG (p : Option Addr) (c : Nat) (B : List Int) (R : HProp) (hR : ∀ w0 h, R w0 h → RdR U5 p B.length B w0 h) (hB : BitP.Byt B) (hl : B.length < 500000000) (hcap : B.length ≤ c) (hL : 10 ≤ B.length) : Ctr Tryz.prog 426 [.agg #[], .slice p B.length c] [R] (Ret fun v G => v = .tuple #[.int .i64 (UsP.lo B 6 2), .int .i64 (UsP.lo B 8 2)] ∧ G = [R]) := by
  refine spec_of [(0, _), (1, _)] Tryz.func426 rfl Tryz.ntmps426 rfl rfl ?_
  intro w0 F
  refine w_seq ?_
  refine w_region ?_
  refine o_box rfl (cs := []) rfl rfl ?_
  intro b2
  refine o_val (v_assign rfl) rfl ?_
  refine o_val (v_assign rfl) rfl ?_
  refine o_nil ?_
  refine thn_n ?_
  refine w_seq ?_
  refine w_net [⟨[], [], [1], 0, 0⟩, ⟨[0], [0], [], 0, 0⟩, ⟨[0, 1], [1], [], 0, 0⟩, ⟨[], [], [1], 0, 0⟩, ⟨[3], [3], [], 0, 0⟩, ⟨[0, 1, 2, 3, 4], [4], [], 0, 0⟩, ⟨[0, 1, 2, 3, 4, 5], [2], [], 0, 0⟩, ⟨[0, 1, 2, 3, 4, 5, 6], [5], [], 0, 0⟩] [⟨fun y => Cel b2 208 [], none, none, []⟩, ⟨fun y => R, none, none, [2, 5]⟩] F W.mixed (by kernel_rfl) rfl (fun _ => .refl _) (locT_0 _ (locT_0 _ locT_nil)) ?_
  refine net_pure (fun y => [(1, _)]) (fun y => rfl) rfl rfl rfl (fun y hA L => st_v (v_move rfl) ⟨rfl, rfl⟩) (by intros; rfl) (by intro y y2 h; rfl) ?_
  refine net_pure (fun y => [(6, _)]) (fun y => rfl) rfl rfl rfl (fun y hA L => st_v (v_slice 6 8 c W.sl28 rfl ⟨_, rfl⟩ ⟨_, rfl⟩ rfl (by omega) (by omega) (by omega)) ⟨rfl, rfl⟩) (by intros; rfl) (by intro y y2 h; rfl) ?_
  refine net_eff (fun y => []) (fun y => [R]) (fun y => []) (fun y => [(7, _)]) (fun y => rfl) (fun y => rfl) (fun y => rfl) (fun y => rfl) (fun y FF hA => st_callN (Post := [R]) (u_lowP p c B R hR hB hl hcap 6 2 (8 - 6) (c - 6) (by omega) (by decide) (by omega)) W.b429 rfl (.cons (by repeat first | exact .head | apply Rem.tail) .nil) (fun v G h => by rcases h with ⟨rfl, rfl⟩; exact ⟨rfl, .refl _⟩)) (by intros; rfl) (by intros; rfl) (by intro y y2 h; rfl) ?_
  refine net_pure (fun y => [(1, _)]) (fun y => rfl) rfl rfl rfl (fun y hA L => st_v (v_move rfl) ⟨rfl, rfl⟩) (by intros; rfl) (by intro y y2 h; rfl) ?_
  refine net_pure (fun y => [(9, _)]) (fun y => rfl) rfl rfl rfl (fun y hA L => st_v (v_slice 8 10 c W.sl28 rfl ⟨_, rfl⟩ ⟨_, rfl⟩ rfl (by omega) (by omega) (by omega)) ⟨rfl, rfl⟩) (by intros; rfl) (by intro y y2 h; rfl) ?_
  refine net_eff (fun y => []) (fun y => [R]) (fun y => []) (fun y => [(10, _)]) (fun y => rfl) (fun y => rfl) (fun y => rfl) (fun y => rfl) (fun y FF hA => st_callN (Post := [R]) (u_lowP p c B R hR hB hl hcap 8 2 (10 - 8) (c - 8) (by omega) (by decide) (by omega)) W.b429 rfl (.cons (by repeat first | exact .head | apply Rem.tail) .nil) (fun v G h => by rcases h with ⟨rfl, rfl⟩; exact ⟨rfl, .refl _⟩)) (by intros; rfl) (by intros; rfl) (by intro y y2 h; rfl) ?_
  refine net_pure (fun y => [(8, _)]) (fun y => rfl) rfl rfl rfl (fun y hA L => st_v (v_assign rfl) ⟨rfl, rfl⟩) (by intros; rfl) (by intro y y2 h; rfl) ?_
  refine net_pure (fun y => [(11, _)]) (fun y => rfl) rfl rfl rfl (fun y hA L => st_v (v_assign rfl) ⟨rfl, rfl⟩) (by intros; rfl) (by intro y y2 h; rfl) ?_
  refine net_nil ?_
  intro y hA
  clear hA
  refine thn_n ?_
  refine w_keep _ (.cons (d := 4) rfl (.cons (d := 5) rfl (.nil _))) ?_
  refine w_sub (M := Cel b2 208 [] :: R :: F) (fun _ _ h => h) ?_
  refine w_ret ?_
  exact ret_ok (G := [R]) (res2 rfl rfl) ⟨rfl, rfl⟩ (sub (.cons (by repeat first | exact .head | apply Rem.tail) .nil) (by repeat first | exact .refl | apply Drop.skip))
set_option maxHeartbeats 1000000 in
theorem u_sidesB (p : Option Addr) (c : Nat) (B : List Int) (R : HProp) (hR : ∀ w0 h, R w0 h → RdR U5 p B.length B w0 h) (hB : BitP.Byt B) (hl : B.length < 500000000) (hcap : B.length ≤ c) (hL : 26 ≤ B.length) : Ctr Tryz.prog 478 [.agg #[], .slice p B.length c] [R] (Ret fun v G => v = .tuple #[.int .i64 (UsP.sg (UsP.lo B 18 4)), .int .i64 (max (UsP.sg (UsP.lo B 22 4)) (0 - (UsP.sg (UsP.lo B 22 4))))] ∧ G = [R]) := by
  refine spec_of [(0, _), (1, _)] Tryz.func478 rfl Tryz.ntmps478 rfl rfl ?_
  intro w0 F
  have hsg := UsP.sg_in (UsP.lo B 22 4)
  refine w_seq ?_
  refine w_region ?_
  refine o_box rfl (cs := []) rfl rfl ?_
  intro b2
  refine o_val (v_assign rfl) rfl ?_
  refine o_val (v_assign rfl) rfl ?_
  refine o_nil ?_
  refine thn_n ?_
  refine w_seq ?_
  refine w_region ?_
  refine o_val (v_move rfl) rfl ?_
  refine o_val (v_slice 22 26 c W.sl28 rfl ⟨_, rfl⟩ ⟨_, rfl⟩ rfl (by omega) (by omega) (by omega)) rfl ?_
  refine o_call (u_lowP p c B R hR hB hl hcap 22 4 (26 - 22) (c - 22) (by omega) (by decide) (by omega)) W.b429  rfl (.cons (by repeat first | exact .head | apply Rem.tail) .nil) rfl ?_
  rintro _ _ ⟨rfl, rfl⟩
  refine o_call (u_signed (UsP.lo B 22 4)) W.b481  rfl .nil rfl ?_
  rintro _ _ ⟨rfl, rfl⟩
  refine o_val (v_assign rfl) rfl ?_
  refine o_nil ?_
  refine thn_n ?_
  refine w_seq ?_
  refine w_region ?_
  refine o_val (v_move rfl) rfl ?_
  refine o_val (v_slice 18 22 c W.sl28 rfl ⟨_, rfl⟩ ⟨_, rfl⟩ rfl (by omega) (by omega) (by omega)) rfl ?_
  refine o_call (u_lowP p c B R hR hB hl hcap 18 4 (22 - 18) (c - 18) (by omega) (by decide) (by omega)) W.b429  rfl (.cons (by repeat first | exact .head | apply Rem.tail) .nil) rfl ?_
  rintro _ _ ⟨rfl, rfl⟩
  refine o_call (u_signed (UsP.lo B 18 4)) W.b481  rfl .nil rfl ?_
  rintro _ _ ⟨rfl, rfl⟩
  refine o_val (v_move rfl) rfl ?_
  refine o_val (v_move rfl) rfl ?_
  refine o_val (v_neg (n := 0 - (UsP.sg (UsP.lo B 22 4))) rfl (wrapI (by omega) (by omega))) rfl ?_
  refine o_val (v_to (v := .int .i64 (max (UsP.sg (UsP.lo B 22 4)) (0 - (UsP.sg (UsP.lo B 22 4))))) (v_max rfl rfl) (congrArg (Value.int .i64) (UsP.max_if _ _))) rfl ?_
  refine o_val (v_assign rfl) rfl ?_
  refine o_val (v_assign rfl) rfl ?_
  refine o_nil ?_
  refine thn_n ?_
  refine w_ret ?_
  exact ret_ok (G := [R]) (res2 rfl rfl) ⟨rfl, rfl⟩ (sub (.cons (by repeat first | exact .head | apply Rem.tail) .nil) (by repeat first | exact .refl | apply Drop.skip))
theorem u_leastB  : Ctr Tryz.prog 477 [.agg #[]] [] (Ret fun v G => v = .int .i64 26 ∧ G = []) := by
  refine spec_of [(0, _)] Tryz.func477 rfl Tryz.ntmps477 rfl rfl ?_
  intro w0 F
  refine w_seq ?_
  refine w_region ?_
  refine o_box rfl (cs := []) rfl rfl ?_
  intro b1
  refine o_val (v_assign rfl) rfl ?_
  refine o_nil ?_
  refine thn_n ?_
  refine w_seq ?_
  refine w_region ?_
  refine o_val (v_assign rfl) rfl ?_
  refine o_nil ?_
  refine thn_n ?_
  refine w_ret ?_
  exact ret_ok (G := []) (res1 rfl) ⟨rfl, rfl⟩ (sub .nil (by repeat first | exact .refl | apply Drop.skip))
theorem u_leastP  : Ctr Tryz.prog 232 [.agg #[]] [] (Ret fun v G => v = .int .i64 26 ∧ G = []) := by
  refine spec_of [(0, _)] Tryz.func232 rfl Tryz.ntmps232 rfl rfl ?_
  intro w0 F
  refine w_seq ?_
  refine w_region ?_
  refine o_box rfl (cs := []) rfl rfl ?_
  intro b1
  refine o_val (v_assign rfl) rfl ?_
  refine o_nil ?_
  refine thn_n ?_
  refine w_seq ?_
  refine w_region ?_
  refine o_val (v_assign rfl) rfl ?_
  refine o_nil ?_
  refine thn_n ?_
  refine w_ret ?_
  exact ret_ok (G := []) (res1 rfl) ⟨rfl, rfl⟩ (sub .nil (by repeat first | exact .refl | apply Drop.skip))
theorem u_leastG  : Ctr Tryz.prog 425 [.agg #[]] [] (Ret fun v G => v = .int .i64 10 ∧ G = []) := by
  refine spec_of [(0, _)] Tryz.func425 rfl Tryz.ntmps425 rfl rfl ?_
  intro w0 F
  refine w_seq ?_
  refine w_region ?_
  refine o_box rfl (cs := []) rfl rfl ?_
  intro b1
  refine o_val (v_assign rfl) rfl ?_
  refine o_nil ?_
  refine thn_n ?_
  refine w_seq ?_
  refine w_region ?_
  refine o_val (v_assign rfl) rfl ?_
  refine o_nil ?_
  refine thn_n ?_
  refine w_ret ?_
  exact ret_ok (G := []) (res1 rfl) ⟨rfl, rfl⟩ (sub .nil (by repeat first | exact .refl | apply Drop.skip))
theorem u_beginsB (p : Option Addr) (c : Nat) (B : List Int) (R : HProp) (hR : ∀ w0 h, R w0 h → RdR U5 p B.length B w0 h) (hB : BitP.Byt B) (hl : B.length < 500000000) (hcap : B.length ≤ c) (t : Bool) (ht : t = decide (UsP.bgs 3 B)) : Ctr Tryz.prog 474 [.agg #[], .slice p B.length c] [R] (Ret fun v G => v = .bool t ∧ G = [R]) := by
  refine spec_of [(0, _), (1, _)] Tryz.func474 rfl Tryz.ntmps474 rfl rfl ?_
  intro w0 F
  refine w_seq ?_
  refine w_region ?_
  refine o_box rfl (cs := []) rfl rfl ?_
  intro b2
  refine o_val (v_assign rfl) rfl ?_
  refine o_nil ?_
  refine thn_n ?_
  rcases (UsP.bmp4 B) with ⟨h1, hb⟩ | ⟨h1, h2, hb⟩ | ⟨h1, h2, h3, hb⟩ | ⟨h1, h2, h3, hb⟩
  ·
    refine w_seq ?_
    refine w_region ?_
    refine o_val (v_move rfl) rfl ?_
    refine o_val (v_len (ty' := 0) Tryz.underlying28 rfl) rfl ?_
    refine o_val (v_F (v_gtr rfl rfl) (by omega)) rfl ?_
    refine o_val (v_move rfl) rfl ?_
    refine o_pass rfl rfl rfl ?_
    refine o_pass rfl rfl rfl ?_
    refine o_pass rfl rfl rfl ?_
    refine o_pass rfl rfl rfl ?_
    refine o_val (v_pickF rfl rfl) rfl ?_
    refine o_val (v_move rfl) rfl ?_
    refine o_pass rfl rfl rfl ?_
    refine o_pass rfl rfl rfl ?_
    refine o_pass rfl rfl rfl ?_
    refine o_pass rfl rfl rfl ?_
    refine o_val (v_pickF rfl rfl) rfl ?_
    refine o_val (v_assign rfl) rfl ?_
    refine o_nil ?_
    refine thn_n ?_
    refine w_ret ?_
    first
    | (obtain rfl : t = true := ht.trans (decide_eq_true hb); exact ret_ok (G := [R]) (res1 rfl) ⟨rfl, rfl⟩ (sub (.cons (by repeat first | exact .head | apply Rem.tail) .nil) (by repeat first | exact .refl | apply Drop.skip)))
    | (obtain rfl : t = false := ht.trans (decide_eq_false hb); exact ret_ok (G := [R]) (res1 rfl) ⟨rfl, rfl⟩ (sub (.cons (by repeat first | exact .head | apply Rem.tail) .nil) (by repeat first | exact .refl | apply Drop.skip)))
  ·
    refine w_seq ?_
    refine w_region ?_
    refine o_val (v_move rfl) rfl ?_
    refine o_val (v_len (ty' := 0) Tryz.underlying28 rfl) rfl ?_
    refine o_val (v_T (v_gtr rfl rfl) (by omega)) rfl ?_
    refine o_val (v_move rfl) rfl ?_
    refine o_want rfl ?_
    refine o_val (v_move rfl) rfl ?_
    refine o_want rfl ?_
    refine o_val (r_index (c := (U5)) W.sl28 rfl rfl (by first | exact own mm0 | exact own mm1 | exact own mm2 | exact own mm3 | exact own mm4 | exact own mm5 | exact own mm6 | exact own mm7 | exact own mm8 | exact own mm9 | exact own mm10 | exact own mm11 | exact rdH hR mm0 | exact rdH hR mm1 | exact rdH hR mm2 | exact rdH hR mm3 | exact rdH hR mm4 | exact rdH hR mm5 | exact rdH hR mm6 | exact rdH hR mm7 | exact rdH hR mm8 | exact rdH hR mm9 | exact rdH hR mm10 | exact rdH hR mm11) (by omega) (by omega)) rfl ?_
    refine o_want rfl ?_
    refine o_val (r_load (c := (U5)) W.s5 rfl (by first | exact own mm0 | exact own mm1 | exact own mm2 | exact own mm3 | exact own mm4 | exact own mm5 | exact own mm6 | exact own mm7 | exact own mm8 | exact own mm9 | exact own mm10 | exact own mm11 | exact rdH hR mm0 | exact rdH hR mm1 | exact rdH hR mm2 | exact rdH hR mm3 | exact rdH hR mm4 | exact rdH hR mm5 | exact rdH hR mm6 | exact rdH hR mm7 | exact rdH hR mm8 | exact rdH hR mm9 | exact rdH hR mm10 | exact rdH hR mm11) (by omega) (by omega) rfl rfl) rfl ?_
    refine o_want rfl ?_
    refine o_val (v_F (v_eql rfl rfl) h2) rfl ?_
    refine o_val (v_pickT rfl rfl) rfl ?_
    refine o_val (v_move rfl) rfl ?_
    refine o_pass rfl rfl rfl ?_
    refine o_pass rfl rfl rfl ?_
    refine o_pass rfl rfl rfl ?_
    refine o_pass rfl rfl rfl ?_
    refine o_val (v_pickF rfl rfl) rfl ?_
    refine o_val (v_assign rfl) rfl ?_
    refine o_nil ?_
    refine thn_n ?_
    refine w_ret ?_
    first
    | (obtain rfl : t = true := ht.trans (decide_eq_true hb); exact ret_ok (G := [R]) (res1 rfl) ⟨rfl, rfl⟩ (sub (.cons (by repeat first | exact .head | apply Rem.tail) .nil) (by repeat first | exact .refl | apply Drop.skip)))
    | (obtain rfl : t = false := ht.trans (decide_eq_false hb); exact ret_ok (G := [R]) (res1 rfl) ⟨rfl, rfl⟩ (sub (.cons (by repeat first | exact .head | apply Rem.tail) .nil) (by repeat first | exact .refl | apply Drop.skip)))
  ·
    refine w_seq ?_
    refine w_region ?_
    refine o_val (v_move rfl) rfl ?_
    refine o_val (v_len (ty' := 0) Tryz.underlying28 rfl) rfl ?_
    refine o_val (v_T (v_gtr rfl rfl) (by omega)) rfl ?_
    refine o_val (v_move rfl) rfl ?_
    refine o_want rfl ?_
    refine o_val (v_move rfl) rfl ?_
    refine o_want rfl ?_
    refine o_val (r_index (c := (U5)) W.sl28 rfl rfl (by first | exact own mm0 | exact own mm1 | exact own mm2 | exact own mm3 | exact own mm4 | exact own mm5 | exact own mm6 | exact own mm7 | exact own mm8 | exact own mm9 | exact own mm10 | exact own mm11 | exact rdH hR mm0 | exact rdH hR mm1 | exact rdH hR mm2 | exact rdH hR mm3 | exact rdH hR mm4 | exact rdH hR mm5 | exact rdH hR mm6 | exact rdH hR mm7 | exact rdH hR mm8 | exact rdH hR mm9 | exact rdH hR mm10 | exact rdH hR mm11) (by omega) (by omega)) rfl ?_
    refine o_want rfl ?_
    refine o_val (r_load (c := (U5)) W.s5 rfl (by first | exact own mm0 | exact own mm1 | exact own mm2 | exact own mm3 | exact own mm4 | exact own mm5 | exact own mm6 | exact own mm7 | exact own mm8 | exact own mm9 | exact own mm10 | exact own mm11 | exact rdH hR mm0 | exact rdH hR mm1 | exact rdH hR mm2 | exact rdH hR mm3 | exact rdH hR mm4 | exact rdH hR mm5 | exact rdH hR mm6 | exact rdH hR mm7 | exact rdH hR mm8 | exact rdH hR mm9 | exact rdH hR mm10 | exact rdH hR mm11) (by omega) (by omega) rfl rfl) rfl ?_
    refine o_want rfl ?_
    refine o_val (v_T (v_eql rfl rfl) h2) rfl ?_
    refine o_val (v_pickT rfl rfl) rfl ?_
    refine o_val (v_move rfl) rfl ?_
    refine o_want rfl ?_
    refine o_val (v_move rfl) rfl ?_
    refine o_want rfl ?_
    refine o_val (r_index (c := (U5)) W.sl28 rfl rfl (by first | exact own mm0 | exact own mm1 | exact own mm2 | exact own mm3 | exact own mm4 | exact own mm5 | exact own mm6 | exact own mm7 | exact own mm8 | exact own mm9 | exact own mm10 | exact own mm11 | exact rdH hR mm0 | exact rdH hR mm1 | exact rdH hR mm2 | exact rdH hR mm3 | exact rdH hR mm4 | exact rdH hR mm5 | exact rdH hR mm6 | exact rdH hR mm7 | exact rdH hR mm8 | exact rdH hR mm9 | exact rdH hR mm10 | exact rdH hR mm11) (by omega) (by omega)) rfl ?_
    refine o_want rfl ?_
    refine o_val (r_load (c := (U5)) W.s5 rfl (by first | exact own mm0 | exact own mm1 | exact own mm2 | exact own mm3 | exact own mm4 | exact own mm5 | exact own mm6 | exact own mm7 | exact own mm8 | exact own mm9 | exact own mm10 | exact own mm11 | exact rdH hR mm0 | exact rdH hR mm1 | exact rdH hR mm2 | exact rdH hR mm3 | exact rdH hR mm4 | exact rdH hR mm5 | exact rdH hR mm6 | exact rdH hR mm7 | exact rdH hR mm8 | exact rdH hR mm9 | exact rdH hR mm10 | exact rdH hR mm11) (by omega) (by omega) rfl rfl) rfl ?_
    refine o_want rfl ?_
    refine o_val (v_F (v_eql rfl rfl) h3) rfl ?_
    refine o_val (v_pickT rfl rfl) rfl ?_
    refine o_val (v_assign rfl) rfl ?_
    refine o_nil ?_
    refine thn_n ?_
    refine w_ret ?_
    first
    | (obtain rfl : t = true := ht.trans (decide_eq_true hb); exact ret_ok (G := [R]) (res1 rfl) ⟨rfl, rfl⟩ (sub (.cons (by repeat first | exact .head | apply Rem.tail) .nil) (by repeat first | exact .refl | apply Drop.skip)))
    | (obtain rfl : t = false := ht.trans (decide_eq_false hb); exact ret_ok (G := [R]) (res1 rfl) ⟨rfl, rfl⟩ (sub (.cons (by repeat first | exact .head | apply Rem.tail) .nil) (by repeat first | exact .refl | apply Drop.skip)))
  ·
    refine w_seq ?_
    refine w_region ?_
    refine o_val (v_move rfl) rfl ?_
    refine o_val (v_len (ty' := 0) Tryz.underlying28 rfl) rfl ?_
    refine o_val (v_T (v_gtr rfl rfl) (by omega)) rfl ?_
    refine o_val (v_move rfl) rfl ?_
    refine o_want rfl ?_
    refine o_val (v_move rfl) rfl ?_
    refine o_want rfl ?_
    refine o_val (r_index (c := (U5)) W.sl28 rfl rfl (by first | exact own mm0 | exact own mm1 | exact own mm2 | exact own mm3 | exact own mm4 | exact own mm5 | exact own mm6 | exact own mm7 | exact own mm8 | exact own mm9 | exact own mm10 | exact own mm11 | exact rdH hR mm0 | exact rdH hR mm1 | exact rdH hR mm2 | exact rdH hR mm3 | exact rdH hR mm4 | exact rdH hR mm5 | exact rdH hR mm6 | exact rdH hR mm7 | exact rdH hR mm8 | exact rdH hR mm9 | exact rdH hR mm10 | exact rdH hR mm11) (by omega) (by omega)) rfl ?_
    refine o_want rfl ?_
    refine o_val (r_load (c := (U5)) W.s5 rfl (by first | exact own mm0 | exact own mm1 | exact own mm2 | exact own mm3 | exact own mm4 | exact own mm5 | exact own mm6 | exact own mm7 | exact own mm8 | exact own mm9 | exact own mm10 | exact own mm11 | exact rdH hR mm0 | exact rdH hR mm1 | exact rdH hR mm2 | exact rdH hR mm3 | exact rdH hR mm4 | exact rdH hR mm5 | exact rdH hR mm6 | exact rdH hR mm7 | exact rdH hR mm8 | exact rdH hR mm9 | exact rdH hR mm10 | exact rdH hR mm11) (by omega) (by omega) rfl rfl) rfl ?_
    refine o_want rfl ?_
    refine o_val (v_T (v_eql rfl rfl) h2) rfl ?_
    refine o_val (v_pickT rfl rfl) rfl ?_
    refine o_val (v_move rfl) rfl ?_
    refine o_want rfl ?_
    refine o_val (v_move rfl) rfl ?_
    refine o_want rfl ?_
    refine o_val (r_index (c := (U5)) W.sl28 rfl rfl (by first | exact own mm0 | exact own mm1 | exact own mm2 | exact own mm3 | exact own mm4 | exact own mm5 | exact own mm6 | exact own mm7 | exact own mm8 | exact own mm9 | exact own mm10 | exact own mm11 | exact rdH hR mm0 | exact rdH hR mm1 | exact rdH hR mm2 | exact rdH hR mm3 | exact rdH hR mm4 | exact rdH hR mm5 | exact rdH hR mm6 | exact rdH hR mm7 | exact rdH hR mm8 | exact rdH hR mm9 | exact rdH hR mm10 | exact rdH hR mm11) (by omega) (by omega)) rfl ?_
    refine o_want rfl ?_
    refine o_val (r_load (c := (U5)) W.s5 rfl (by first | exact own mm0 | exact own mm1 | exact own mm2 | exact own mm3 | exact own mm4 | exact own mm5 | exact own mm6 | exact own mm7 | exact own mm8 | exact own mm9 | exact own mm10 | exact own mm11 | exact rdH hR mm0 | exact rdH hR mm1 | exact rdH hR mm2 | exact rdH hR mm3 | exact rdH hR mm4 | exact rdH hR mm5 | exact rdH hR mm6 | exact rdH hR mm7 | exact rdH hR mm8 | exact rdH hR mm9 | exact rdH hR mm10 | exact rdH hR mm11) (by omega) (by omega) rfl rfl) rfl ?_
    refine o_want rfl ?_
    refine o_val (v_T (v_eql rfl rfl) h3) rfl ?_
    refine o_val (v_pickT rfl rfl) rfl ?_
    refine o_val (v_assign rfl) rfl ?_
    refine o_nil ?_
    refine thn_n ?_
    refine w_ret ?_
    first
    | (obtain rfl : t = true := ht.trans (decide_eq_true hb); exact ret_ok (G := [R]) (res1 rfl) ⟨rfl, rfl⟩ (sub (.cons (by repeat first | exact .head | apply Rem.tail) .nil) (by repeat first | exact .refl | apply Drop.skip)))
    | (obtain rfl : t = false := ht.trans (decide_eq_false hb); exact ret_ok (G := [R]) (res1 rfl) ⟨rfl, rfl⟩ (sub (.cons (by repeat first | exact .head | apply Rem.tail) .nil) (by repeat first | exact .refl | apply Drop.skip)))
set_option maxHeartbeats 1000000 in
theorem u_beginsG (p : Option Addr) (c : Nat) (B : List Int) (R : HProp) (hR : ∀ w0 h, R w0 h → RdR U5 p B.length B w0 h) (hB : BitP.Byt B) (hl : B.length < 500000000) (hcap : B.length ≤ c) (t : Bool) (ht : t = decide (UsP.bgs 2 B)) : Ctr Tryz.prog 422 [.agg #[], .slice p B.length c] [R] (Ret fun v G => v = .bool t ∧ G = [R]) := by
  refine spec_of [(0, _), (1, _)] Tryz.func422 rfl Tryz.ntmps422 rfl rfl ?_
  intro w0 F
  have hT := rdr_tk hR 6 (B.take 6).length rfl
  have htl : (B.take 6).length ≤ B.length := by rw [List.length_take]; omega
  refine w_seq ?_
  refine w_region ?_
  refine o_box rfl (cs := []) rfl rfl ?_
  intro b2
  refine o_val (v_assign rfl) rfl ?_
  refine o_nil ?_
  refine thn_n ?_
  refine w_seq ?_
  refine w_region ?_
  refine o_val (v_move rfl) rfl ?_
  refine o_val (v_move rfl) rfl ?_
  refine o_val (v_len (ty' := 0) Tryz.underlying28 rfl) rfl ?_
  refine o_val (v_to (v := .int .i64 ((B.take 6).length : Int)) (v_min rfl rfl) (congrArg (Value.int .i64) (UsP.min_len B 6))) rfl ?_
  refine o_val (v_slice0 (B.take 6).length c W.sl28 rfl ⟨_, rfl⟩ rfl (by omega) (by omega)) rfl ?_
  refine o_val (s_str (T := 5) (l := B.take 6) Tryz.underlying28 Tryz.underlying5 Tryz.underlying9 rfl (by first | exact rdH hT mm0 | exact rdH hT mm1)) rfl ?_
  refine o_val (v_assign rfl) rfl ?_
  refine o_nil ?_
  refine thn_n ?_
  rcases (UsP.gif3 B) with ⟨h1, hb⟩ | ⟨h1, h2, hb⟩ | ⟨h1, h2, hb⟩
  ·
    refine w_seq ?_
    refine w_region ?_
    refine o_val (v_move rfl) rfl ?_
    refine o_val (v_T (v_sk UsP.g7 (UsP.byt_all (UsP.byt_take hB 6)) UsP.g7_b rfl (show evalE _ _ = some (.string (strOfNums UsP.g7)) by unfold UsP.g7; rfl)) h1) rfl ?_
    refine o_val (v_move rfl) rfl ?_
    refine o_pass rfl rfl rfl ?_
    refine o_pass rfl rfl rfl ?_
    refine o_val (v_pickT rfl rfl) rfl ?_
    refine o_val (v_assign rfl) rfl ?_
    refine o_nil ?_
    refine thn_n ?_
    refine w_ret ?_
    first
    | (obtain rfl : t = true := ht.trans (decide_eq_true hb); exact ret_ok (G := [R]) (res1 rfl) ⟨rfl, rfl⟩ (sub (.cons (by repeat first | exact .head | apply Rem.tail) .nil) (by repeat first | exact .refl | apply Drop.skip)))
    | (obtain rfl : t = false := ht.trans (decide_eq_false hb); exact ret_ok (G := [R]) (res1 rfl) ⟨rfl, rfl⟩ (sub (.cons (by repeat first | exact .head | apply Rem.tail) .nil) (by repeat first | exact .refl | apply Drop.skip)))
  ·
    refine w_seq ?_
    refine w_region ?_
    refine o_val (v_move rfl) rfl ?_
    refine o_val (v_F (v_sk UsP.g7 (UsP.byt_all (UsP.byt_take hB 6)) UsP.g7_b rfl (show evalE _ _ = some (.string (strOfNums UsP.g7)) by unfold UsP.g7; rfl)) h1) rfl ?_
    refine o_val (v_move rfl) rfl ?_
    refine o_want rfl ?_
    refine o_val (v_move rfl) rfl ?_
    refine o_want rfl ?_
    refine o_val (v_T (v_sk UsP.g9 (UsP.byt_all (UsP.byt_take hB 6)) UsP.g9_b rfl (show evalE _ _ = some (.string (strOfNums UsP.g9)) by unfold UsP.g9; rfl)) h2) rfl ?_
    refine o_val (v_pickF rfl rfl) rfl ?_
    refine o_val (v_assign rfl) rfl ?_
    refine o_nil ?_
    refine thn_n ?_
    refine w_ret ?_
    first
    | (obtain rfl : t = true := ht.trans (decide_eq_true hb); exact ret_ok (G := [R]) (res1 rfl) ⟨rfl, rfl⟩ (sub (.cons (by repeat first | exact .head | apply Rem.tail) .nil) (by repeat first | exact .refl | apply Drop.skip)))
    | (obtain rfl : t = false := ht.trans (decide_eq_false hb); exact ret_ok (G := [R]) (res1 rfl) ⟨rfl, rfl⟩ (sub (.cons (by repeat first | exact .head | apply Rem.tail) .nil) (by repeat first | exact .refl | apply Drop.skip)))
  ·
    refine w_seq ?_
    refine w_region ?_
    refine o_val (v_move rfl) rfl ?_
    refine o_val (v_F (v_sk UsP.g7 (UsP.byt_all (UsP.byt_take hB 6)) UsP.g7_b rfl (show evalE _ _ = some (.string (strOfNums UsP.g7)) by unfold UsP.g7; rfl)) h1) rfl ?_
    refine o_val (v_move rfl) rfl ?_
    refine o_want rfl ?_
    refine o_val (v_move rfl) rfl ?_
    refine o_want rfl ?_
    refine o_val (v_F (v_sk UsP.g9 (UsP.byt_all (UsP.byt_take hB 6)) UsP.g9_b rfl (show evalE _ _ = some (.string (strOfNums UsP.g9)) by unfold UsP.g9; rfl)) h2) rfl ?_
    refine o_val (v_pickF rfl rfl) rfl ?_
    refine o_val (v_assign rfl) rfl ?_
    refine o_nil ?_
    refine thn_n ?_
    refine w_ret ?_
    first
    | (obtain rfl : t = true := ht.trans (decide_eq_true hb); exact ret_ok (G := [R]) (res1 rfl) ⟨rfl, rfl⟩ (sub (.cons (by repeat first | exact .head | apply Rem.tail) .nil) (by repeat first | exact .refl | apply Drop.skip)))
    | (obtain rfl : t = false := ht.trans (decide_eq_false hb); exact ret_ok (G := [R]) (res1 rfl) ⟨rfl, rfl⟩ (sub (.cons (by repeat first | exact .head | apply Rem.tail) .nil) (by repeat first | exact .refl | apply Drop.skip)))
set_option maxHeartbeats 1000000 in
theorem x_prefix (l d : List Int) (hl : BitP.Byt l) (hd : BitP.Byt d) (t : Bool) (ht : t = decide (l.take d.length = d)) : Ctr Tryz.prog 238 [.string (strOfNums l), .string (strOfNums d)] [] (Ret fun v G => v = .bool t ∧ G = []) := by
  refine spec_of [(0, _), (1, _)] Tryz.func238 rfl Tryz.ntmps238 rfl rfl ?_
  intro w0 F
  refine w_seq ?_
  refine w_region ?_
  refine o_val (v_assign rfl) rfl ?_
  refine o_nil ?_
  refine thn_n ?_
  rcases (UsP.pre3 l d) with ⟨h1, hb⟩ | ⟨h1, hb⟩ | ⟨h1, hb⟩
  ·
    refine w_seq ?_
    refine w_region ?_
    refine o_val (v_move rfl) rfl ?_
    refine o_val (v_lenS Tryz.underlying9 rfl (num_size l)) rfl ?_
    refine o_val (v_move rfl) rfl ?_
    refine o_val (v_lenS Tryz.underlying9 rfl (num_size d)) rfl ?_
    refine o_val (v_F (v_geq rfl rfl) (by omega)) rfl ?_
    refine o_val (v_move rfl) rfl ?_
    refine o_pass rfl rfl rfl ?_
    refine o_pass rfl rfl rfl ?_
    refine o_pass rfl rfl rfl ?_
    refine o_pass rfl rfl rfl ?_
    refine o_pass rfl rfl rfl ?_
    refine o_pass rfl rfl rfl ?_
    refine o_val (v_pickF rfl rfl) rfl ?_
    refine o_val (v_assign rfl) rfl ?_
    refine o_nil ?_
    refine thn_n ?_
    refine w_ret ?_
    first
    | (obtain rfl : t = true := ht.trans (decide_eq_true hb); exact ret_ok (G := []) (res1 rfl) ⟨rfl, rfl⟩ (sub .nil (by repeat first | exact .refl | apply Drop.skip)))
    | (obtain rfl : t = false := ht.trans (decide_eq_false hb); exact ret_ok (G := []) (res1 rfl) ⟨rfl, rfl⟩ (sub .nil (by repeat first | exact .refl | apply Drop.skip)))
  ·
    refine w_seq ?_
    refine w_region ?_
    refine o_val (v_move rfl) rfl ?_
    refine o_val (v_lenS Tryz.underlying9 rfl (num_size l)) rfl ?_
    refine o_val (v_move rfl) rfl ?_
    refine o_val (v_lenS Tryz.underlying9 rfl (num_size d)) rfl ?_
    refine o_val (v_T (v_geq rfl rfl) (by omega)) rfl ?_
    refine o_val (v_move rfl) rfl ?_
    refine o_want rfl ?_
    refine o_val (v_move rfl) rfl ?_
    refine o_want rfl ?_
    refine o_val (v_move rfl) rfl ?_
    refine o_want rfl ?_
    refine o_val (v_lenS Tryz.underlying9 rfl (num_size d)) rfl ?_
    refine o_want rfl ?_
    refine o_val (v_prefS (u := strOfNums (l.take d.length)) Tryz.underlying9 rfl rfl (by omega) (by rw [num_size]; omega) (str_take l d.length)) rfl ?_
    refine o_want rfl ?_
    refine o_val (v_move rfl) rfl ?_
    refine o_want rfl ?_
    refine o_val (v_T (v_sk d (UsP.byt_all (UsP.byt_take hl d.length)) (UsP.byt_all hd) rfl rfl) hb) rfl ?_
    refine o_val (v_pickT rfl rfl) rfl ?_
    refine o_val (v_assign rfl) rfl ?_
    refine o_nil ?_
    refine thn_n ?_
    refine w_ret ?_
    first
    | (obtain rfl : t = true := ht.trans (decide_eq_true hb); exact ret_ok (G := []) (res1 rfl) ⟨rfl, rfl⟩ (sub .nil (by repeat first | exact .refl | apply Drop.skip)))
    | (obtain rfl : t = false := ht.trans (decide_eq_false hb); exact ret_ok (G := []) (res1 rfl) ⟨rfl, rfl⟩ (sub .nil (by repeat first | exact .refl | apply Drop.skip)))
  ·
    refine w_seq ?_
    refine w_region ?_
    refine o_val (v_move rfl) rfl ?_
    refine o_val (v_lenS Tryz.underlying9 rfl (num_size l)) rfl ?_
    refine o_val (v_move rfl) rfl ?_
    refine o_val (v_lenS Tryz.underlying9 rfl (num_size d)) rfl ?_
    refine o_val (v_T (v_geq rfl rfl) (by omega)) rfl ?_
    refine o_val (v_move rfl) rfl ?_
    refine o_want rfl ?_
    refine o_val (v_move rfl) rfl ?_
    refine o_want rfl ?_
    refine o_val (v_move rfl) rfl ?_
    refine o_want rfl ?_
    refine o_val (v_lenS Tryz.underlying9 rfl (num_size d)) rfl ?_
    refine o_want rfl ?_
    refine o_val (v_prefS (u := strOfNums (l.take d.length)) Tryz.underlying9 rfl rfl (by omega) (by rw [num_size]; omega) (str_take l d.length)) rfl ?_
    refine o_want rfl ?_
    refine o_val (v_move rfl) rfl ?_
    refine o_want rfl ?_
    refine o_val (v_F (v_sk d (UsP.byt_all (UsP.byt_take hl d.length)) (UsP.byt_all hd) rfl rfl) hb) rfl ?_
    refine o_val (v_pickT rfl rfl) rfl ?_
    refine o_val (v_assign rfl) rfl ?_
    refine o_nil ?_
    refine thn_n ?_
    refine w_ret ?_
    first
    | (obtain rfl : t = true := ht.trans (decide_eq_true hb); exact ret_ok (G := []) (res1 rfl) ⟨rfl, rfl⟩ (sub .nil (by repeat first | exact .refl | apply Drop.skip)))
    | (obtain rfl : t = false := ht.trans (decide_eq_false hb); exact ret_ok (G := []) (res1 rfl) ⟨rfl, rfl⟩ (sub .nil (by repeat first | exact .refl | apply Drop.skip)))
theorem s_prefix (l d : List Int) (hl : BitP.Byt l) (hd : BitP.Byt d) (t : Bool) (ht : t = decide (l.take d.length = d)) : Ctr Tryz.prog 234 [.string (strOfNums l), .string (strOfNums d)] [] (Ret fun v G => v = .bool t ∧ G = []) := by
  refine spec_of [(0, _), (1, _)] Tryz.func234 rfl Tryz.ntmps234 rfl rfl ?_
  intro w0 F
  refine w_seq ?_
  refine w_region ?_
  refine o_val (v_assign rfl) rfl ?_
  refine o_nil ?_
  refine thn_n ?_
  refine w_seq ?_
  refine w_region ?_
  refine o_val (v_move rfl) rfl ?_
  refine o_val (v_move rfl) rfl ?_
  refine o_call (x_prefix l d hl hd t ht) W.b238  rfl .nil rfl ?_
  rintro _ _ ⟨rfl, rfl⟩
  refine o_val (v_assign rfl) rfl ?_
  refine o_nil ?_
  refine thn_n ?_
  refine w_ret ?_
  exact ret_ok (G := []) (res1 rfl) ⟨rfl, rfl⟩ (sub .nil (by repeat first | exact .refl | apply Drop.skip))
theorem s_sign (l : List Int) (hl : BitP.Byt l) (t : Bool) (ht : t = decide (l.take UsP.sgn.length = UsP.sgn)) : Ctr Tryz.prog 234 [.string (strOfNums l), .string (ByteArray.mk #[137, 80, 78, 71, 13, 10, 26, 10])] [] (Ret fun v G => v = .bool t ∧ G = []) := by
  have h := s_prefix l UsP.sgn hl (UsP.all_byt UsP.sgn_b) t ht
  rwa [show strOfNums UsP.sgn = ByteArray.mk #[137, 80, 78, 71, 13, 10, 26, 10] from by unfold UsP.sgn; rfl] at h
set_option maxHeartbeats 1000000 in
theorem u_beginsP (p : Option Addr) (c : Nat) (B : List Int) (R : HProp) (hR : ∀ w0 h, R w0 h → RdR U5 p B.length B w0 h) (hB : BitP.Byt B) (hl : B.length < 500000000) (hcap : B.length ≤ c) (t : Bool) (ht : t = decide (UsP.bgs 1 B)) : Ctr Tryz.prog 229 [.agg #[], .slice p B.length c] [R] (Ret fun v G => v = .bool t ∧ G = [R]) := by
  refine spec_of [(0, _), (1, _)] Tryz.func229 rfl Tryz.ntmps229 rfl rfl ?_
  intro w0 F
  have hT := rdr_tk hR 8 (B.take 8).length rfl
  have htl : (B.take 8).length ≤ B.length := by rw [List.length_take]; omega
  refine w_seq ?_
  refine w_region ?_
  refine o_box rfl (cs := []) rfl rfl ?_
  intro b2
  refine o_val (v_assign rfl) rfl ?_
  refine o_nil ?_
  refine thn_n ?_
  refine w_seq ?_
  refine w_region ?_
  refine o_val (v_move rfl) rfl ?_
  refine o_val (v_move rfl) rfl ?_
  refine o_val (v_len (ty' := 0) Tryz.underlying28 rfl) rfl ?_
  refine o_val (v_to (v := .int .i64 ((B.take 8).length : Int)) (v_min rfl rfl) (congrArg (Value.int .i64) (UsP.min_len B 8))) rfl ?_
  refine o_val (v_slice0 (B.take 8).length c W.sl28 rfl ⟨_, rfl⟩ rfl (by omega) (by omega)) rfl ?_
  refine o_val (s_str (T := 5) (l := B.take 8) Tryz.underlying28 Tryz.underlying5 Tryz.underlying9 rfl (by first | exact rdH hT mm0 | exact rdH hT mm1)) rfl ?_
  refine o_call (s_sign (B.take 8) (UsP.byt_take hB 8) t (ht.trans (UsP.bgs1d B))) W.b234  rfl .nil rfl ?_
  rintro _ _ ⟨rfl, rfl⟩
  refine o_val (v_assign rfl) rfl ?_
  refine o_nil ?_
  refine thn_n ?_
  refine w_ret ?_
  exact ret_ok (G := [R]) (res1 rfl) ⟨rfl, rfl⟩ (sub (.cons (by repeat first | exact .head | apply Rem.tail) .nil) (by repeat first | exact .refl | apply Drop.skip))
theorem u_of1 (n : Int) (h : n = 1) : Ctr Tryz.prog 73 [.int .i64 n] [] (Ret fun v G => v = .tuple #[.iface 207 (.agg #[]), .bool true] ∧ G = []) := by
  refine spec_of [(0, _)] Tryz.func73 rfl Tryz.ntmps73 rfl rfl ?_
  intro w0 F
  refine w_seq ?_
  refine w_region ?_
  refine o_val (v_assign rfl) rfl ?_
  refine o_val (v_assign rfl) rfl ?_
  refine o_nil ?_
  refine thn_n ?_
  refine w_seq ?_
  refine w_seq ?_
  refine w_region ?_
  refine o_val (v_move rfl) rfl ?_
  refine o_nil ?_
  refine thn_n ?_
  refine w_block ?_
  refine w_seq ?_
  refine w_region ?_
  refine o_val (v_T (v_eql rfl rfl) h) rfl ?_
  refine o_val (v_assign rfl) rfl ?_
  refine o_nil ?_
  refine thn_n ?_
  refine w_condT rfl ?_
  refine w_seq ?_
  refine w_region ?_
  refine o_val (v_build W.pl207 W.z207 rfl (cs := []) rfl) rfl ?_
  refine o_val (v_iface W.c207 rfl) rfl ?_
  refine o_val (v_assign rfl) rfl ?_
  refine o_val (v_assign rfl) rfl ?_
  refine o_nil ?_
  refine thn_n ?_
  refine w_ret ?_
  refine (blk_r (thn_r ?_))
  exact ret_ok (G := []) (res2 rfl rfl) ⟨rfl, rfl⟩ (sub .nil (by repeat first | exact .refl | apply Drop.skip))
theorem u_of2 (n : Int) (h : n = 2) : Ctr Tryz.prog 73 [.int .i64 n] [] (Ret fun v G => v = .tuple #[.iface 208 (.agg #[]), .bool true] ∧ G = []) := by
  refine spec_of [(0, _)] Tryz.func73 rfl Tryz.ntmps73 rfl rfl ?_
  intro w0 F
  refine w_seq ?_
  refine w_region ?_
  refine o_val (v_assign rfl) rfl ?_
  refine o_val (v_assign rfl) rfl ?_
  refine o_nil ?_
  refine thn_n ?_
  refine w_seq ?_
  refine w_seq ?_
  refine w_region ?_
  refine o_val (v_move rfl) rfl ?_
  refine o_nil ?_
  refine thn_n ?_
  refine w_block ?_
  refine w_seq ?_
  refine w_region ?_
  refine o_val (v_F (v_eql rfl rfl) (by omega)) rfl ?_
  refine o_val (v_assign rfl) rfl ?_
  refine o_nil ?_
  refine thn_n ?_
  refine w_condF rfl ?_
  refine w_seq ?_
  refine w_region ?_
  refine o_val (v_T (v_eql rfl rfl) h) rfl ?_
  refine o_val (v_assign rfl) rfl ?_
  refine o_nil ?_
  refine thn_n ?_
  refine w_condT rfl ?_
  refine w_seq ?_
  refine w_region ?_
  refine o_val (v_build W.pl208 W.z208 rfl (cs := []) rfl) rfl ?_
  refine o_val (v_iface W.c208 rfl) rfl ?_
  refine o_val (v_assign rfl) rfl ?_
  refine o_val (v_assign rfl) rfl ?_
  refine o_nil ?_
  refine thn_n ?_
  refine w_ret ?_
  refine (blk_r (thn_r ?_))
  exact ret_ok (G := []) (res2 rfl rfl) ⟨rfl, rfl⟩ (sub .nil (by repeat first | exact .refl | apply Drop.skip))
theorem u_of3 (n : Int) (h : n = 3) : Ctr Tryz.prog 73 [.int .i64 n] [] (Ret fun v G => v = .tuple #[.iface 209 (.agg #[]), .bool true] ∧ G = []) := by
  refine spec_of [(0, _)] Tryz.func73 rfl Tryz.ntmps73 rfl rfl ?_
  intro w0 F
  refine w_seq ?_
  refine w_region ?_
  refine o_val (v_assign rfl) rfl ?_
  refine o_val (v_assign rfl) rfl ?_
  refine o_nil ?_
  refine thn_n ?_
  refine w_seq ?_
  refine w_seq ?_
  refine w_region ?_
  refine o_val (v_move rfl) rfl ?_
  refine o_nil ?_
  refine thn_n ?_
  refine w_block ?_
  refine w_seq ?_
  refine w_region ?_
  refine o_val (v_F (v_eql rfl rfl) (by omega)) rfl ?_
  refine o_val (v_assign rfl) rfl ?_
  refine o_nil ?_
  refine thn_n ?_
  refine w_condF rfl ?_
  refine w_seq ?_
  refine w_region ?_
  refine o_val (v_F (v_eql rfl rfl) (by omega)) rfl ?_
  refine o_val (v_assign rfl) rfl ?_
  refine o_nil ?_
  refine thn_n ?_
  refine w_condF rfl ?_
  refine w_seq ?_
  refine w_region ?_
  refine o_val (v_T (v_eql rfl rfl) h) rfl ?_
  refine o_val (v_assign rfl) rfl ?_
  refine o_nil ?_
  refine thn_n ?_
  refine w_condT rfl ?_
  refine w_seq ?_
  refine w_region ?_
  refine o_val (v_build W.pl209 W.z209 rfl (cs := []) rfl) rfl ?_
  refine o_val (v_iface W.c209 rfl) rfl ?_
  refine o_val (v_assign rfl) rfl ?_
  refine o_val (v_assign rfl) rfl ?_
  refine o_nil ?_
  refine thn_n ?_
  refine w_ret ?_
  refine (blk_r (thn_r ?_))
  exact ret_ok (G := []) (res2 rfl rfl) ⟨rfl, rfl⟩ (sub .nil (by repeat first | exact .refl | apply Drop.skip))
theorem u_of0 (n : Int) (h : n = 0) : Ctr Tryz.prog 73 [.int .i64 n] [] (Ret fun v G => v = .tuple #[.nilIface, .bool false] ∧ G = []) := by
  refine spec_of [(0, _)] Tryz.func73 rfl Tryz.ntmps73 rfl rfl ?_
  intro w0 F
  refine w_seq ?_
  refine w_region ?_
  refine o_val (v_assign rfl) rfl ?_
  refine o_val (v_assign rfl) rfl ?_
  refine o_nil ?_
  refine thn_n ?_
  refine w_seq ?_
  refine w_seq ?_
  refine w_region ?_
  refine o_val (v_move rfl) rfl ?_
  refine o_nil ?_
  refine thn_n ?_
  refine w_block ?_
  refine w_seq ?_
  refine w_region ?_
  refine o_val (v_F (v_eql rfl rfl) (by omega)) rfl ?_
  refine o_val (v_assign rfl) rfl ?_
  refine o_nil ?_
  refine thn_n ?_
  refine w_condF rfl ?_
  refine w_seq ?_
  refine w_region ?_
  refine o_val (v_F (v_eql rfl rfl) (by omega)) rfl ?_
  refine o_val (v_assign rfl) rfl ?_
  refine o_nil ?_
  refine thn_n ?_
  refine w_condF rfl ?_
  refine w_seq ?_
  refine w_region ?_
  refine o_val (v_F (v_eql rfl rfl) (by omega)) rfl ?_
  refine o_val (v_assign rfl) rfl ?_
  refine o_nil ?_
  refine thn_n ?_
  refine w_condF rfl ?_
  refine w_skip ?_
  refine blk_n ?_
  refine thn_n ?_
  refine w_seq ?_
  refine w_region ?_
  refine o_val (v_assign rfl) rfl ?_
  refine o_val (v_assign rfl) rfl ?_
  refine o_nil ?_
  refine thn_n ?_
  refine w_ret ?_
  exact ret_ok (G := []) (res2 rfl rfl) ⟨rfl, rfl⟩ (sub .nil (by repeat first | exact .refl | apply Drop.skip))
end Go.Proofs.YtookicfejdbddaaGreat

/- Walks of functions that the law reaches, and what they lean on; no conditions. -/
import Derived.Test.YtmbljkghkcgejaaGreatM30
import Derived.Test.YtmbljkghkcgejaaGreatSl22
import Derived.KernelRfl
import Derived.Test.YtmbljkghkcgejaaGreatM37
set_option linter.unusedVariables false
set_option linter.unusedSimpArgs false
set_option maxRecDepth 100000
namespace Go.Proofs.YtmbljkghkcgejaaGreat
open Go.Sl 
theorem TTZiI : okT Tryz.prog ⟨[], [(87, 2, 2), (89, 0, 0)]⟩ = true := by kernel_rfl
theorem c_clone (p : Option Addr) (cap : Nat) (B : List Int) (R : HProp) (hR : ∀ w0 h, R w0 h → RdR U5 p B.length B w0 h) (hl : B.length < 500000000) : Ctr Tryz.prog 40 [.slice p B.length cap] [R] (Ret fun v G => ∃ q c, v = .slice q B.length c ∧ G = [Row U5 q B.length c B, R]) := by
 refine spec_of [(0, _)] Tryz.func40 rfl Tryz.ntmps40 rfl rfl ?_
 intro w0 F
 refine w_fact (fun w hi => rd_nil (List.mem_cons_self ..) hR hi) (fun hp => ?_)
 refine rT TTZiI 9 rfl ?_
 refine oV (v_eqnilS Tryz.underlying22 rfl rfl) ?_
 refine rO TTZiI 2 rfl ?_
 refine w_cond rfl (fun h4 => ?_) (fun h4 => ?_)
 ·refine rC TTZiI 7 rfl ?_
  obtain rfl : p = none := by cases p with | none => rfl | some _ => simp at h4
  obtain rfl : B = [] := hp rfl
  exact ret_ok (res1 rfl) ⟨none, 0, rfl, rfl⟩ ((sub_add0 (fun w0 => Row.nil _ _ _)).trans (sub (rz2 .nil) dd0))
 ·refine rC TTZiI 4 rfl ?_
  refine r_build (U5) [] V.sl22 V.z5 rfl rfl rfl rfl rfl rfl ?_
  intro b5
  refine oV (v_move rfl) ?_
  refine r_append (c := (U5)) V.sl22 V.z5 rfl rfl rfl rfl rr0 (by exact rdH hR mm1) (by omega) rfl ?_
  intro p7 c7
  refine rO TTZiI 4 rfl ?_
  exact ret_ok (res1 rfl) ⟨p7, c7, by rw [Nat.zero_add], by rw [Nat.zero_add, List.nil_append]⟩ (sub (rz2 .nil) dd0)
theorem c_left (b : Nat) (B : List Int) (at_ : Nat) (out : List Int) (free : Int) (hl : B.length < 500000000) (ha : at_ ≤ 8 * B.length) : Ctr Tryz.prog 57 [.pointer (some ⟨b, 0, none⟩)] [LW b B at_ out free] (Ret fun v G => v = .int .i64 (8 * (B.length : Int) - (at_ : Int)) ∧ G = [LW b B at_ out free]) := by
 refine spec_of [(0, _)] Tryz.func57 rfl Tryz.ntmps57 rfl rfl ?_
 intro w0 F
 refine w_opn (fun h hh => hh) ?_
 rintro ⟨p1, c1, p2, c2⟩ _
 dsimp only
 refine rT TTZiI 6 rfl ?_
 refine wN [pz 0 [] [0], pz 1 [0] [], pz 3 [1] [], pz 7 [2] [], pz 15 [3] [], pz 31 [4] [], pz 0 [] [0], pz 64 [6] [], pz 192 [7] [], pz 448 [8] [], pz 1023 [5, 9] [], pz 2047 [10] []] [⟨fun y => Cel b 89 [.slice p1 B.length c1, .slice p2 out.length c2, .int .i64 (at_ : Int), .int .i64 free], none, none, [3, 9]⟩, ⟨fun y => Row U5 p1 B.length c1 B, none, none, []⟩, ⟨fun y => Row U5 p2 out.length c2 out, none, none, []⟩] F V.mixed ?_
 refine nM ?_
 refine nN ?_
 refine nG V.f87_0 ?_
 refine nR (fun y FF hA => v_load V.s22 rfl mm0 rfl) ?_
 refine nV (fun y hA L => v_len (ty' := 0) Tryz.underlying22 rfl) ?_
 refine nV (fun y hA L => v_mul rfl rfl wI) ?_
 refine nM ?_
 refine nN ?_
 refine nG V.f87_2 ?_
 refine nR (fun y FF hA => v_load V.s3 rfl mm0 rfl) ?_
 refine nV (fun y hA L => v_sub rfl rfl wI) ?_
 refine nA ?_
 refine net_nil ?_
 intro y hA
 clear hA
 refine thn_n ?_
 refine w_keep _ (.cons (d := 2) rfl (.nil _)) ?_
 refine w_sub (M := Cel b 89 [.slice p1 B.length c1, .slice p2 out.length c2, .int .i64 (at_ : Int), .int .i64 free] :: Row U5 p1 B.length c1 B :: Row U5 p2 out.length c2 out :: F) (fun _ _ h => h) ?_
 refine rC TTZiI 1 rfl ?_
 exact ret_ok (res1 rfl) ⟨rfl, rfl⟩ (fold' (rz3 .nil) dd0 (fun w0 h hh => lw_close hh))
theorem c_ask (b : Nat) (B : List Int) (at_ : Nat) (out : List Int) (free : Int) (n : Int) (hl : B.length < 500000000) (ha : at_ ≤ 8 * B.length) (hn : 0 ≤ n ∧ n ≤ 24 ∧ n ≤ 8 * (B.length : Int) - at_) : Ctr Tryz.prog 69 [.pointer (some ⟨b, 0, none⟩), .int .i64 n] [LW b B at_ out free] (Ret fun v G => v = .tuple #[] ∧ G = [LW b B at_ out free]) := by
 refine spec_of [(0, _), (1, _)] Tryz.func69 rfl Tryz.ntmps69 rfl rfl ?_
 intro w0 F
 refine rT TTZiI 3 rfl ?_
 refine oV (v_F (v_lss rfl rfl) (by omega)) ?_
 refine rO TTZiI 2 rfl ?_
 refine o_want rfl ?_
 refine oV (v_F (v_gtr rfl rfl) (by omega)) ?_
 refine rO TTZiI 4 rfl ?_
 refine o_want rfl ?_
 refine o_call (c_left b B at_ out free hl ha) V.b57  rfl (rz1 .nil) rfl ?_
 rintro _ _ ⟨rfl, rfl⟩
 refine o_want rfl ?_
 refine oV (v_F (v_gtr rfl rfl) (by omega)) ?_
 refine rO TTZiI 5 rfl ?_
 exact end_ok res0 ⟨rfl, rfl⟩ (sub (rz1 .nil) dd0)
theorem c_askE (b : Nat) (B : List Int) (at_ : Nat) (out : List Int) (free : Int) (n : Int) (hl : B.length < 500000000) (ha : at_ ≤ 8 * B.length) (hn : 0 ≤ n ∧ n ≤ 24 ∧ 8 * (B.length : Int) - at_ < n) : Ctr Tryz.prog 69 [.pointer (some ⟨b, 0, none⟩), .int .i64 n] [LW b B at_ out free] (Pan fun ch G => ch = pan1 91 (.agg #[]) ∧ G = [LW b B at_ out free]) := by
 refine spec_of [(0, _), (1, _)] Tryz.func69 rfl Tryz.ntmps69 rfl rfl ?_
 intro w0 F
 refine rT TTZiI 3 rfl ?_
 refine oV (v_F (v_lss rfl rfl) (by omega)) ?_
 refine rO TTZiI 2 rfl ?_
 refine o_want rfl ?_
 refine oV (v_F (v_gtr rfl rfl) (by omega)) ?_
 refine rO TTZiI 4 rfl ?_
 refine o_want rfl ?_
 refine o_call (c_left b B at_ out free hl ha) V.b57  rfl (rz1 .nil) rfl ?_
 rintro _ _ ⟨rfl, rfl⟩
 refine o_want rfl ?_
 refine oV (v_T (v_gtr rfl rfl) (by omega)) ?_
 refine rO TTZiI 5 rfl ?_
 refine oV (v_build V.pl91 V.z91 rfl (cs := []) rfl) ?_
 refine oV (v_iface V.c91 rfl) ?_
 refine o_panic rfl ?_
 skip
 exact pan_ok (G := [LW b B at_ out free]) ⟨rfl, rfl⟩ (sub (rz1 .nil) dd0)
theorem c_next (b : Nat) (B : List Int) (at_ : Nat) (out : List Int) (free : Int) (hl : B.length < 500000000) (hB : BitP.Byt B) (ha : at_ < 8 * B.length) : Ctr Tryz.prog 70 [.pointer (some ⟨b, 0, none⟩)] [LW b B at_ out free] (Ret fun v G => v = .int .i64 (BitP.bitL B at_) ∧ G = [LW b B (at_ + 1) out free]) := by
 refine spec_of [(0, _)] Tryz.func70 rfl Tryz.ntmps70 rfl rfl ?_
 intro w0 F
 refine w_opn (fun h hh => hh) ?_
 rintro ⟨p1, c1, p2, c2⟩ _
 dsimp only
 have hq : U5.g B ((at_ : Int) / 8) = B.getD (at_ / 8) 0 := gE (at_ / 8) (by omega)
 have hb := hB.get (at_ / 8)
 have hd := BitP.div_byte hb.1 hb.2 (at_ % 8)
 have hb2 := BitP.bitL_01 B at_
 refine rT TTZiI 6 rfl ?_
 refine wN [pz 0 [] [0], pz 1 [0] [], pz 3 [1] [], pz 7 [2] [], pz 15 [3] [], pz 0 [] [0], pz 32 [5] [], pz 96 [6] [], pz 224 [7] [], pz 480 [8] [], pz 992 [9] [], pz 2047 [4, 10] [], pz 4095 [11] [], pz 0 [] [0], pz 8192 [13] [], pz 24576 [14] [], pz 57344 [15] [], pz 122880 [16] [], pz 253952 [17] [], pz 524287 [12, 18] [], pz 1048575 [19] []] [⟨fun y => Cel b 89 [.slice p1 B.length c1, .slice p2 out.length c2, .int .i64 (at_ : Int), .int .i64 free], none, none, [4, 9, 17]⟩, ⟨fun y => Row U5 p1 B.length c1 B, none, none, [11, 12]⟩, ⟨fun y => Row U5 p2 out.length c2 out, none, none, []⟩] F V.mixed ?_
 refine nM ?_
 refine nN ?_
 refine nG V.f89_0 ?_
 refine nG V.f87_0 ?_
 refine nR (fun y FF hA => v_load V.s22 rfl mm0 rfl) ?_
 refine nM ?_
 refine nN ?_
 refine nG V.f89_0 ?_
 refine nG V.f87_2 ?_
 refine nR (fun y FF hA => v_load V.s3 rfl mm0 rfl) ?_
 refine nV (fun y hA L => v_quo rfl rfl (by omega) (quoI (by omega) (by omega) (by omega))) ?_
 refine nR (fun y FF hA => xI V.sl22 (own mm0)) ?_
 refine nR (fun y FF hA => xL V.s5 (own mm0)) ?_
 refine nM ?_
 refine nN ?_
 refine nG V.f89_0 ?_
 refine nG V.f87_2 ?_
 refine nR (fun y FF hA => v_load V.s3 rfl mm0 rfl) ?_
 refine nV (fun y hA L => v_rem rfl rfl (by omega) (remI (by omega))) ?_
 refine nV (fun y hA L => v_shr (r := B.getD (at_ / 8) 0 / 2 ^ (at_ % 8)) rfl rfl (by omega) (by rw [hq]; exact BitP.shr8 hb.1 (by omega) (by omega))) ?_
 refine nA ?_
 refine net_nil ?_
 intro y hA
 clear hA
 refine thn_n ?_
 refine w_keep _ (.cons (d := 0) rfl (.cons (d := 3) rfl (.nil _))) ?_
 refine w_sub (M := Cel b 89 [.slice p1 B.length c1, .slice p2 out.length c2, .int .i64 (at_ : Int), .int .i64 free] :: Row U5 p1 B.length c1 B :: Row U5 p2 out.length c2 out :: F) (fun _ _ h => h) ?_
 refine rC TTZiI 6 rfl ?_
 refine oV (v_load V.s3 rfl mm0 rfl) ?_
 refine rOs TTZiI 4 rfl (by omega) ?_
 refine o_eff (v_store V.s3 rfl rfl rfl (by exact pp0) (by exact Nat.le_of_ble_eq_true rfl) rfl) ?_
 refine rO TTZiI 5 rfl ?_
 refine oV (v_and (r := BitP.bitL B at_) rfl rfl (BitP.and_one8 hd.1 hd.2)) ?_
 refine oV (v_conv V.u5 Tryz.underlying3 rfl wI) ?_
 refine rO TTZiI 4 rfl ?_
 rw [show (at_ : Int) + 1 = ((at_ + 1 : Nat) : Int) from by omega]
 exact ret_ok (res1 rfl) ⟨rfl, rfl⟩ (fold' (rz3 .nil) dd0 (fun w0 h hh => lw_close hh))
theorem c_take (b : Nat) (B : List Int) (at_ : Nat) (out : List Int) (free : Int) (n : Nat) (hl : B.length < 500000000) (hB : BitP.Byt B) (hn : n ≤ 24) (ha : at_ + n ≤ 8 * B.length) : Ctr Tryz.prog 56 [.pointer (some ⟨b, 0, none⟩), .int .i64 (n : Int)] [LW b B at_ out free] (Ret fun v G => v = .int .i64 (BitP.numL B at_ n) ∧ G = [LW b B (at_ + n) out free]) := by
 refine spec_of [(0, _), (1, _)] Tryz.func56 rfl Tryz.ntmps56 rfl rfl ?_
 intro w0 F
 refine rT TTZiI 11 rfl ?_
 refine o_call (c_ask b B at_ out free n hl (by omega) (by omega)) V.b69  rfl (rz1 .nil) rfl ?_
 rintro _ _ ⟨rfl, rfl⟩
 refine rO TTZiI 15 rfl ?_
 refine w_loop1 (fun (k : Nat) => [(0, .pointer (some ⟨b, 0, none⟩)), (5, .int .i64 (BitP.numL B at_ k)), (12, .int .i64 (n : Int)), (13, .int .i64 (k : Int))]) (fun (k : Nat) => LW b B (at_ + k) out free :: F) (fun (k : Nat) => k ≤ n) (fun (k : Nat) => n - k) (i1 (0) ?_ (lc4 ln) (sub (rz1 .nil) dd0)) ?_
 ·exact Nat.zero_le _
 intro k
 rintro hk
 refine rL TTZiI 6 rfl ?_
 refine w_condD rfl (fun h14 => ?_) (fun h14 => ?_)
 ·refine rC TTZiI 10 rfl ?_
  have hb := BitP.bitL_01 B (at_ + k)
  have hnb := BitP.numL_bound B at_ k
  refine rC TTZiI 3 rfl ?_
  refine o_call (c_next b B (at_ + k) out free hl hB (by omega)) V.b70  rfl (rz1 .nil) rfl ?_
  rintro _ _ ⟨rfl, rfl⟩
  refine oV (v_move rfl) ?_
  refine oV (v_shl (r := BitP.bitL B (at_ + k) * 2 ^ k) rfl rfl (by omega) (BitP.shl24 hb (by omega) rfl)) ?_
  refine oV (v_or (r := BitP.numL B at_ k + BitP.bitL B (at_ + k) * 2 ^ k) rfl rfl (BitP.or_up hnb.1 hnb.2 hb (by omega))) ?_
  refine rOs TTZiI 8 rfl (by omega) ?_
  refine j1 (k + 1) ?_ (lc4 ln) (sub (rz1 .nil) dd0)
  exact ⟨by omega, by omega⟩
 ·refine rC TTZiI 12 rfl ?_
  obtain rfl : k = n := by omega
  exact ret_ok (res1 rfl) ⟨rfl, rfl⟩ (sub (rz1 .nil) dd0)
theorem c_takeE (b : Nat) (B : List Int) (at_ : Nat) (out : List Int) (free : Int) (n : Nat) (hl : B.length < 500000000) (hB : BitP.Byt B) (hn : n ≤ 24) (ha : at_ ≤ 8 * B.length) (hx : 8 * B.length < at_ + n) : Ctr Tryz.prog 56 [.pointer (some ⟨b, 0, none⟩), .int .i64 (n : Int)] [LW b B at_ out free] (Pan fun ch G => ch = pan1 91 (.agg #[]) ∧ G = [LW b B at_ out free]) := by
 refine spec_of [(0, _), (1, _)] Tryz.func56 rfl Tryz.ntmps56 rfl rfl ?_
 intro w0 F
 refine rT TTZiI 11 rfl ?_
 refine o_callE (c_askE b B at_ out free n hl ha (by omega)) V.b69 rfl (rz1 .nil) ?_
 rintro _ _ ⟨rfl, rfl⟩
 refine (thn_p ?_)
 exact pan_ok (G := [LW b B at_ out free]) ⟨rfl, rfl⟩ (sub (rz1 .nil) dd0)
theorem c_Left (b : Nat) (B : List Int) (at_ : Nat) (out : List Int) (free : Int) (hl : B.length < 500000000) (ha : at_ ≤ 8 * B.length) : Ctr Tryz.prog 41 [.pointer (some ⟨b, 0, none⟩)] [LW b B at_ out free] (Ret fun v G => v = .int .i64 (8 * (B.length : Int) - (at_ : Int)) ∧ G = [LW b B at_ out free]) := by
 refine spec_of [(0, _)] Tryz.func41 rfl Tryz.ntmps41 rfl rfl ?_
 intro w0 F
 refine rT TTZiI 9 rfl ?_
 refine oV (v_to (v := .bool false) (v_eqnil Tryz.underlying71 rfl rfl) rfl) ?_
 refine rO TTZiI 10 rfl ?_
 refine o_call (c_left b B at_ out free hl ha) V.b57  rfl (rz1 .nil) rfl ?_
 rintro _ _ ⟨rfl, rfl⟩
 refine rO TTZiI 4 rfl ?_
 exact ret_ok (res1 rfl) ⟨rfl, rfl⟩ (sub (rz1 .nil) dd0)
theorem c_newLow (p : Option Addr) (cap : Nat) (B : List Int) (R : HProp) (hR : ∀ w0 h, R w0 h → RdR U5 p B.length B w0 h) (hl : B.length < 500000000) : Ctr Tryz.prog 36 [.slice p B.length cap] [R] (Ret fun v G => ∃ b, v = .pointer (some ⟨b, 0, none⟩) ∧ G = [LW b B 0 [] 0, R]) := by
 refine spec_of [(0, _)] Tryz.func36 rfl Tryz.ntmps36 rfl rfl ?_
 intro w0 F
 refine rT TTZiI 8 rfl ?_
 refine o_call (c_clone p cap B R hR hl) V.b40  rfl (rz1 .nil) rfl ?_
 rintro _ _ ⟨q, c, rfl, rfl⟩
 refine oV (v_build V.pl87 V.z87 rfl (cs := [.slice q B.length c, .slice none 0 0, .int .i64 0, .int .i64 0]) rfl) ?_
 refine oV (v_build V.pl89 V.z89 rfl (cs := [.slice q B.length c, .slice none 0 0, .int .i64 0, .int .i64 0]) rfl) ?_
 refine o_box rfl (cs := [.slice q B.length c, .slice none 0 0, .int .i64 0, .int .i64 0]) rfl rfl ?_
 intro b7
 refine rO TTZiI 4 rfl ?_
 exact ret_ok (res1 rfl) ⟨b7, rfl, rfl⟩ ((sub_add0 (A := Row U5 none 0 0 []) (fun w0 => Row.nil _ _ _)).trans ((fold' (.cons rr1 (.cons rr1 (rz1 .nil))) dd0 (fun w0 h hh => lw_close (p1 := q) (c1 := c) (p2 := none) (c2 := 0) (B := B) (out := []) (at_ := 0) (free := 0) hh)).trans (sub (rz2 .nil) dd0)))
end Go.Proofs.YtmbljkghkcgejaaGreat
namespace Go.Proofs.YtmbljkghkcgejaaGreat
open Go.Sl 
theorem TTZiJ : okT Tryz.prog ⟨[], [(59, 1, 1), (59, 2, 2), (59, 3, 3)]⟩ = true := by kernel_rfl
end Go.Proofs.YtmbljkghkcgejaaGreat

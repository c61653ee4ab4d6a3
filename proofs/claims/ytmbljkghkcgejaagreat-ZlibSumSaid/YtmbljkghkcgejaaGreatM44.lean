/- Walks of functions that the law reaches, and what they lean on; no conditions. -/
import Derived.Test.YtmbljkghkcgejaaGreatM30
import Derived.Test.YtmbljkghkcgejaaGreatSl22
import Derived.KernelRfl
import Derived.Test.YtmbljkghkcgejaaGreatM37
import Derived.Test.YtmbljkghkcgejaaGreatM38
import Derived.Test.YtmbljkghkcgejaaGreatM33
import Derived.Test.YtmbljkghkcgejaaGreatSl24
set_option linter.unusedVariables false
set_option linter.unusedSimpArgs false
set_option maxRecDepth 100000
namespace Go.Proofs.YtmbljkghkcgejaaGreat
open Go.Sl 
theorem TTZhC : okT Tryz.prog ⟨[127], [(129, 0, 0), (145, 1, 1)]⟩ = true := by kernel_rfl
attribute [local irreducible] HuffP.newE HuffP.tk HuffP.ord HuffP.cntL HuffP.words HuffP.mostL InfP.fixK InfP.frs
attribute [local irreducible] HuffP.wd HuffP.lkW HuffP.lkN HuffP.lkB
theorem h_word (b : Nat) (ls : List Int) (x : Int) : Ctr Tryz.prog 101 [.pointer (some ⟨b, 0, none⟩), .int .i64 x] [HC b ls] (Ret fun v G => v = .tuple #[.int .i64 (HuffP.lkW ls x), .int .i64 (HuffP.lkN ls x), .bool (HuffP.lkB ls x)] ∧ G = [HC b ls]) := by
 refine spec_of [(0, _), (1, _)] Tryz.func101 rfl Tryz.ntmps101 rfl rfl ?_
 intro w0 F
 refine w_opn (fun h hh => hh) ?_
 rintro ⟨p1, c1, p2, c2⟩ _
 dsimp only
 have hgw : 0 ≤ x → x < ls.length → W63.g (HuffP.words ls) x = HuffP.wd ls x.toNat := fun h0 h1 => HuffP.words_get (by omega)
 refine rT TTZhC 11 rfl ?_
 refine oV (v_to (v := .bool false) (v_eqnil Tryz.underlying73 rfl rfl) rfl) ?_
 refine rO TTZhC 5 rfl ?_
 refine o_boolD 14 rfl (fun h14 => ?_) (fun h14 => ?_)
 ·refine rO TTZhC 31 rfl ?_
  obtain ⟨e1, e2, e3⟩ := HuffP.lk_none (ls := ls) (x := x) (by exact .inl (by omega))
  rw [e1, e2, e3]
  exact ret_ok (res3 rfl rfl rfl) ⟨rfl, rfl⟩ (fold' (rz3 .nil) dd0 (fun w0 h hh => hc_close rfl hh))
 ·refine rO TTZhC 4 rfl ?_
  refine o_want rfl ?_
  refine oV (v_load V.s127 rfl mm0 rfl) ?_
  refine rO TTZhC 4 rfl ?_
  refine o_boolD 23 rfl (fun h23 => ?_) (fun h23 => ?_)
  ·refine rO TTZhC 22 rfl ?_
   obtain ⟨e1, e2, e3⟩ := HuffP.lk_none (ls := ls) (x := x) (by exact .inr (.inl (by omega)))
   rw [e1, e2, e3]
   exact ret_ok (res3 rfl rfl rfl) ⟨rfl, rfl⟩ (fold' (rz3 .nil) dd0 (fun w0 h hh => hc_close rfl hh))
  ·refine rO TTZhC 3 rfl ?_
   refine o_want rfl ?_
   refine oV (v_load V.s127 rfl mm0 rfl) ?_
   refine o_want rfl ?_
   refine oV (v_move rfl) ?_
   refine o_want rfl ?_
   refine oV (xI V.sl127 (own mm1)) ?_
   refine o_want rfl ?_
   refine oV (v_fieldAddr V.f145_1 rfl) ?_
   refine o_want rfl ?_
   refine oV (r_loadF (c := (W63)) 1 V.s3 rfl (own mm1) (by omega) (by omega) rfl rfl) ?_
   refine rO TTZhC 4 rfl ?_
   refine w_condD rfl (fun h33 => ?_) (fun h33 => ?_)
   ·refine rC TTZhC 9 rfl ?_
    obtain ⟨e1, e2, e3⟩ := HuffP.lk_none (ls := ls) (x := x) (by exact .inr (.inr (by rw [← hgw (by omega) (by omega)]; assumption)))
    rw [e1, e2, e3]
    exact ret_ok (res3 rfl rfl rfl) ⟨rfl, rfl⟩ (fold' (rz3 .nil) dd0 (fun w0 h hh => hc_close rfl hh))
   ·refine rC TTZhC 7 rfl ?_
    refine oV (v_load V.s127 rfl mm0 rfl) ?_
    refine oV (v_move rfl) ?_
    refine oV (xI V.sl127 (own mm1)) ?_
    refine oV (r_loadA (c := (W63)) V.a145 rfl (own mm1) (by omega) (by omega) rfl) ?_
    refine o_alloc V.z145 rfl ?_
    intro b7
    refine o_eff (v_storeAgg V.a145 rfl rfl (us := [_, _]) rfl rfl (by exact pp0) (by exact Nat.le_of_ble_eq_true rfl) rfl) ?_
    refine rO TTZhC 3 rfl ?_
    refine wN [pz 0 [] [7], pz 1 [0] [], pz 0 [] [7], pz 4 [2] [], pz 3 [1] [], pz 31 [3] [], pz 63 [] []] [⟨fun y => Cel b7 145 [.int .i64 (W63.g (HuffP.words ls) x).1, .int .i64 (W63.g (HuffP.words ls) x).2], none, none, [1, 3]⟩, ⟨fun y => Cel b 129 (CA [.slice p1 ls.length c1] .i64 (HuffP.cntL ls) [.slice p2 (HuffP.ord ls).length c2, .int .i64 (HuffP.mostL ls)]), none, none, []⟩, ⟨fun y => Row W63 p1 ls.length c1 (HuffP.words ls), none, none, []⟩, ⟨fun y => Row I3 p2 (HuffP.ord ls).length c2 (HuffP.ord ls), none, none, []⟩] F V.mixed ?_
    refine nG V.f145_0 ?_
    refine nR (fun y FF hA => v_load V.s3 rfl mm0 rfl) ?_
    refine nG V.f145_1 ?_
    refine nR (fun y FF hA => v_load V.s3 rfl mm0 rfl) ?_
    iterate 3 refine nA ?_
    refine net_nil ?_
    intro y hA
    clear hA
    refine thn_n ?_
    refine w_keep _ (.cons (d := 4) rfl (.cons (d := 5) rfl (.cons (d := 6) rfl (.nil _)))) ?_
    refine w_sub (M := Cel b7 145 [.int .i64 (W63.g (HuffP.words ls) x).1, .int .i64 (W63.g (HuffP.words ls) x).2] :: Cel b 129 (CA [.slice p1 ls.length c1] .i64 (HuffP.cntL ls) [.slice p2 (HuffP.ord ls).length c2, .int .i64 (HuffP.mostL ls)]) :: Row W63 p1 ls.length c1 (HuffP.words ls) :: Row I3 p2 (HuffP.ord ls).length c2 (HuffP.ord ls) :: F) (fun _ _ h => h) ?_
    refine rC TTZhC 1 rfl ?_
    obtain ⟨e1, e2, e3⟩ := HuffP.lk_some (ls := ls) (x := x) (by omega) (by omega) (by rw [← hgw (by omega) (by omega)]; assumption)
    rw [e1, e2, e3, ← hgw (by omega) (by omega)]
    exact ret_ok (res3 rfl rfl rfl) ⟨rfl, rfl⟩ (fold' (.cons rr1 (.cons rr1 (.cons rr1 .nil))) dd1 (fun w0 h hh => hc_close rfl hh))
end Go.Proofs.YtmbljkghkcgejaaGreat
namespace Go.Proofs.YtmbljkghkcgejaaGreat
open Go.Sl 
theorem TTZhN : okT Tryz.prog ⟨[], [(87, 1, 1), (87, 3, 3), (89, 0, 0)]⟩ = true := by kernel_rfl
theorem c_room0 (b : Nat) (out : List Int) (hl : out.length < 500000000) : Ctr Tryz.prog 88 [.pointer (some ⟨b, 0, none⟩)] [LW b [] 0 out 0] (Ret fun v G => v = .int .i64 7 ∧ G = [LW b [] 0 (out ++ [0]) 7]) := by
  refine spec_of [(0, _)] Tryz.func88 rfl Tryz.ntmps88 rfl rfl ?_
  intro w0 F
  refine w_opn (fun h hh => hh) ?_
  rintro ⟨p1, c1, p2, c2⟩ _
  dsimp only
  refine rT TTZhN 11 rfl ?_
  refine oV (v_load V.s3 rfl mm0 rfl) ?_
  refine oV (v_T (v_eql rfl rfl) rfl) ?_
  refine rO TTZhN 9 rfl ?_
  refine oV (v_load V.s22 rfl mm0 rfl) ?_
  refine r_build (U5) [0] V.sl22 V.z5 rfl rfl rfl rfl rfl rfl ?_
  intro b13
  refine r_append (c := (U5)) V.sl22 V.z5 rfl rfl rfl rfl rr3 (own mm0) (by omega) rfl ?_
  intro p14 c14
  refine rO TTZhN 2 rfl ?_
  refine o_eff (v_store V.s22 rfl rfl rfl (by exact pp2) (by exact Nat.le_of_ble_eq_true rfl) rfl) ?_
  refine rO TTZhN 6 rfl ?_
  refine o_eff (v_store V.s3 rfl rfl rfl (by exact pp2) (by exact Nat.le_of_ble_eq_true rfl) rfl) ?_
  refine rO TTZhN 7 rfl ?_
  refine oV (v_load V.s3 rfl mm2 rfl) ?_
  refine rOs TTZhN 3 rfl (by omega) ?_
  refine o_eff (v_store V.s3 rfl rfl rfl (by exact pp2) (by exact Nat.le_of_ble_eq_true rfl) rfl) ?_
  refine rO TTZhN 7 rfl ?_
  refine oV (v_load V.s3 rfl mm2 rfl) ?_
  refine rO TTZhN 4 rfl ?_
  exact ret_ok (res1 rfl) ⟨rfl, rfl⟩ (fold' (.cons rr2 (.cons rr2 (rz1 .nil))) dd1 (fun w0 h (hh : sats w0 [Cel b 89 [.slice p1 0 c1, .slice p14 (out.length + 1) c14, .int .i64 0, .int .i64 7], Row U5 p1 0 c1 [], Row U5 p14 (out.length + 1) c14 (out ++ [0])] h) => lw_close (B := []) (out := out ++ [0]) (by rw [List.length_append]; exact hh)))
theorem c_roomS (b : Nat) (out : List Int) (fr : Nat) (h1 : 1 ≤ fr) (h8 : fr ≤ 8) : Ctr Tryz.prog 88 [.pointer (some ⟨b, 0, none⟩)] [LW b [] 0 out (fr : Int)] (Ret fun v G => v = .int .i64 ((fr : Int) - 1) ∧ G = [LW b [] 0 out ((fr : Int) - 1)]) := by
  refine spec_of [(0, _)] Tryz.func88 rfl Tryz.ntmps88 rfl rfl ?_
  intro w0 F
  refine w_opn (fun h hh => hh) ?_
  rintro ⟨p1, c1, p2, c2⟩ _
  dsimp only
  refine rT TTZhN 11 rfl ?_
  refine oV (v_load V.s3 rfl mm0 rfl) ?_
  refine oV (v_F (v_eql rfl rfl) (by omega)) ?_
  refine rO TTZhN 10 rfl ?_
  refine oV (v_load V.s3 rfl mm0 rfl) ?_
  refine rOs TTZhN 3 rfl (by omega) ?_
  refine o_eff (v_store V.s3 rfl rfl rfl (by exact pp0) (by exact Nat.le_of_ble_eq_true rfl) rfl) ?_
  refine rO TTZhN 7 rfl ?_
  refine oV (v_load V.s3 rfl mm0 rfl) ?_
  refine rO TTZhN 4 rfl ?_
  exact ret_ok (res1 rfl) ⟨rfl, rfl⟩ (fold' (rz3 .nil) dd0 (fun w0 h hh => lw_close (B := []) hh))
theorem c_room (b : Nat) (bs : List Int) (hl : bs.length < 500000000) : Ctr Tryz.prog 88 [.pointer (some ⟨b, 0, none⟩)] [WB b bs] (Ret fun v G => ∃ out fr, BitP.Pk bs out fr ∧ 1 ≤ fr ∧ v = .int .i64 ((fr : Int) - 1) ∧ G = [LW b [] 0 out ((fr : Int) - 1)]) := by
  intro w0 F w hi
  obtain ⟨⟨out, fr⟩, ⟨hpk, hf8⟩, hi2⟩ := hi.opn (fun h hh => hh)
  dsimp only at hpk hi2 hf8
  have hlen := hpk.len
  have h8 := hpk.le
  rcases Nat.eq_zero_or_pos fr with e | e
  · subst e
    refine (c_room0 b out (by omega) w0 F w hi2).mono ?_
    rintro e w' ⟨G, h1, v, rfl, rfl, rfl⟩
    exact ⟨_, h1, _, rfl, out ++ [0], 8, BitP.pk_room hpk, by omega, rfl, rfl⟩
  · refine (c_roomS b out fr e h8 w0 F w hi2).mono ?_
    rintro e w' ⟨G, h1, v, rfl, rfl, rfl⟩
    exact ⟨_, h1, _, rfl, out, fr, hpk, by omega, rfl, rfl⟩
set_option maxHeartbeats 1000000 in
theorem c_put (b : Nat) (bs : List Int) (x : Int) (n : Nat) (hx : 0 ≤ x ∧ x < 2 ^ 40) (hn : n ≤ 24) (hl : bs.length < 400000000) : Ctr Tryz.prog 74 [.pointer (some ⟨b, 0, none⟩), .int .i64 x, .int .i64 (n : Int)] [WB b bs] (Ret fun v G => v = .tuple #[] ∧ G = [WB b (bs ++ BitP.lowB x n)]) := by
  refine spec_of [(0, _), (1, _), (2, _)] Tryz.func74 rfl Tryz.ntmps74 rfl rfl ?_
  intro w0 F
  refine rT TTZhN 4 rfl ?_
  refine oV (v_F (v_lss rfl rfl) (by omega)) ?_
  refine rO TTZhN 2 rfl ?_
  refine o_want rfl ?_
  refine oV (v_F (v_gtr rfl rfl) (by omega)) ?_
  refine rO TTZhN 13 rfl ?_
  refine w_loop1 (fun (k : Nat) => [(0, .pointer (some ⟨b, 0, none⟩)), (1, .int .i64 x), (16, .int .i64 (n : Int)), (17, .int .i64 (k : Int))]) (fun (k : Nat) => WB b (bs ++ BitP.lowB x k) :: F) (fun (k : Nat) => k ≤ n) (fun (k : Nat) => n - k) (i1 (0) ?_ (lc4 ln) (by show Sub _ (WB b (bs ++ BitP.lowB x 0) :: F); rw [BitP.lowB_zero, List.append_nil]; exact (sub (rz1 .nil) dd0))) ?_
  ·
    exact Nat.zero_le _
  intro k
  rintro hk
  refine rL TTZhN 6 rfl ?_
  refine w_condD rfl (fun h18 => ?_) (fun h18 => ?_)
  ·
    refine rC TTZhN 15 rfl ?_
    refine o_call (c_room b (bs ++ BitP.lowB x k) (by rw [List.length_append, BitP.lowB_len]; omega)) V.b88  rfl (rz1 .nil) rfl ?_
    rintro _ _ ⟨out, fr, hpk, hfr, rfl, rfl⟩
    refine rO TTZhN 3 rfl ?_
    have hle8 := hpk.le
    have hlen := hpk.len
    have hby := hpk.byt.get (out.length - 1)
    have hdn := BitP.div_nn hx.1 k
    have hob : out.length < 500000000 := by have := hpk.len; rw [List.length_append, BitP.lowB_len] at this; omega
    have hgo : U5.g out ((out.length : Int) - 1) = out.getD (out.length - 1) 0 := gE (out.length - 1) (by omega)
    refine w_opn (fun h hh => hh) ?_
    rintro ⟨p1, c1, p2, c2⟩ _
    dsimp only
    refine wN [pz 0 [] [0], pz 1 [0] [], pz 3 [1] [], pz 7 [2] [], pz 15 [3] [], pz 0 [] [0], pz 32 [5] [], pz 96 [6] [], pz 224 [7] [], pz 480 [8] [], pz 992 [9] [], pz 2016 [10] [], pz 4095 [4, 11] [], pz 8191 [12] [], pz 0 [] [1], pz 0 [] [6], pz 49152 [14, 15] [], pz 114688 [16] [], pz 245760 [17] [], pz 0 [] [7], pz 524288 [19] [], pz 2080768 [18, 20] [], pz 4194303 [13, 21] [], pz 8388607 [4, 11] [], pz 16777215 [23, 22] []] [⟨fun y => Cel b 89 [.slice p1 0 c1, .slice p2 out.length c2, .int .i64 0, .int .i64 ((fr : Int) - 1)], none, none, [4, 9]⟩, ⟨fun y => Row U5 p1 0 c1 [], none, none, []⟩, ⟨fun y => Row U5 p2 out.length c2 out, none, some 24, [12, 13, 23]⟩, ⟨fun y => Row U5 p2 out.length c2 (out.set ((out.length : Int) - 1).toNat (BitP.orB (out.getD (out.length - 1) 0) (x / 2 ^ k % 2) (8 - fr))), some 24, none, []⟩] F V.mixed ?_
    refine nM ?_
    refine nN ?_
    refine nG V.f89_0 ?_
    refine nG V.f87_1 ?_
    refine nR (fun y FF hA => v_load V.s22 rfl mm0 rfl) ?_
    refine nM ?_
    refine nN ?_
    refine nG V.f89_0 ?_
    refine nG V.f87_1 ?_
    refine nR (fun y FF hA => v_load V.s22 rfl mm0 rfl) ?_
    refine nV (fun y hA L => v_len (ty' := 0) Tryz.underlying22 rfl) ?_
    refine nV (fun y hA L => v_sub rfl rfl wI) ?_
    refine nR (fun y FF hA => xI V.sl22 (own mm0)) ?_
    refine nR (fun y FF hA => xL V.s5 (own mm0)) ?_
    iterate 2 refine nM ?_
    refine nV (fun y hA L => v_shr (r := x / 2 ^ k) rfl rfl (by omega) (BitP.shrI (by omega) rfl)) ?_
    refine nV (fun y hA L => v_and (r := (x / 2 ^ k % 2)) rfl rfl (BitP.and_one64 hdn.1 (by omega))) ?_
    refine nV (fun y hA L => v_conv V.u3 Tryz.underlying5 rfl (wrap8 (by omega) (by omega))) ?_
    refine nM ?_
    refine nV (fun y hA L => v_sub rfl rfl wI) ?_
    refine nV (fun y hA L => v_shl (r := (x / 2 ^ k % 2) * 2 ^ (8 - fr)) rfl rfl (by omega) (BitP.shl8 (by omega) (by omega) (by omega))) ?_
    refine nV (fun y hA L => v_or (r := BitP.orB (out.getD (out.length - 1) 0) (x / 2 ^ k % 2) (8 - fr)) rfl rfl (by rw [hgo]; exact BitP.or_put hby (by omega) (by omega))) ?_
    refine nR (fun y FF hA => xI V.sl22 (own mm0)) ?_
    refine nE (fun y FF hA => st_v (r_store (c := (U5)) (_) V.s5 rfl rfl rfl (by exact pp0) (by omega) (by omega) rfl rfl) ⟨rfl, .refl _⟩) ?_
    refine net_nil ?_
    intro y hA
    clear hA
    show blk _ _ _ _ (Cel b 89 [.slice p1 0 c1, .slice p2 out.length c2, .int .i64 0, .int .i64 ((fr : Int) - 1)] :: Row U5 p1 0 c1 [] :: Row U5 p2 out.length c2 (out.set ((out.length : Int) - 1).toNat (BitP.orB (out.getD (out.length - 1) 0) (x / 2 ^ k % 2) (8 - fr))) :: F)
    refine blk_n ?_
    refine thn_n ?_
    refine w_region ?_
    refine oV (v_add rfl rfl wI) ?_
    refine oV (v_move rfl) ?_
    refine o_nil ?_
    refine j1 (k + 1) ?_ (lc4 ln) (fold' (rz3 .nil) dd0 (fun w0 h (hh : sats w0 [Cel b 89 [.slice p1 0 c1, .slice p2 out.length c2, .int .i64 0, .int .i64 ((fr : Int) - 1)], Row U5 p1 0 c1 [], Row U5 p2 out.length c2 (out.set ((out.length : Int) - 1).toNat (BitP.orB (out.getD (out.length - 1) 0) (x / 2 ^ k % 2) (8 - fr)))] h) => wb_close (fr := fr - 1) (f := (fr : Int) - 1) (p1 := p1) (c1 := c1) (p2 := p2) (c2 := c2) (by rw [← BitP.lowB_snoc, ← List.append_assoc]; exact BitP.pk_put hpk hfr (by omega)) (by omega) (by omega) (by rw [List.length_set]) (by rw [show ((out.length : Int) - 1).toNat = out.length - 1 from by omega] at hh; exact hh)))
    exact ⟨by omega, by omega⟩
  ·
    refine rC TTZhN 4 rfl ?_
    obtain rfl : k = n := by omega
    exact end_ok res0 ⟨rfl, rfl⟩ (sub (rz1 .nil) dd0)
end Go.Proofs.YtmbljkghkcgejaaGreat
namespace Go.Proofs.YtmbljkghkcgejaaGreat
open Go.Sl 
theorem TTZhO : okT Tryz.prog ⟨[], [(87, 1, 1), (89, 0, 0)]⟩ = true := by kernel_rfl
attribute [local irreducible] HuffP.newE HuffP.tk HuffP.ord HuffP.cntL HuffP.words HuffP.mostL HuffP.lkW HuffP.lkN HuffP.lkB HuffP.wb HuffP.ins HuffP.bits
theorem c_out (b : Nat) (B : List Int) (at_ : Nat) (out : List Int) (free : Int) (hl : out.length < 500000000) : Ctr Tryz.prog 76 [.pointer (some ⟨b, 0, none⟩)] [LW b B at_ out free] (Ret fun v G => ∃ q c, v = .slice q out.length c ∧ G = [Row U5 q out.length c out, LW b B at_ out free]) := by
 refine spec_of [(0, _)] Tryz.func76 rfl Tryz.ntmps76 rfl rfl ?_
 intro w0 F
 refine w_opn (fun h hh => hh) ?_
 rintro ⟨p1, c1, p2, c2⟩ _
 dsimp only
 refine rT TTZhO 9 rfl ?_
 refine oV (v_to (v := .bool false) (v_eqnil Tryz.underlying71 rfl rfl) rfl) ?_
 refine rO TTZhO 11 rfl ?_
 refine oV (v_load V.s22 rfl mm0 rfl) ?_
 refine o_call (c_clone p2 c2 out (Row U5 p2 out.length c2 out) (fun _ _ h => h.rd) hl) V.b40  rfl (.cons rr2 .nil) rfl ?_
 rintro _ _ ⟨q, c, rfl, rfl⟩
 refine rO TTZhO 4 rfl ?_
 exact ret_ok (res1 rfl) ⟨q, c, rfl, rfl⟩ ((fold' (.cons rr2 (.cons rr2 (.cons rr1 .nil))) dd0 (fun w0 h (hh : sats w0 [Cel b 89 [.slice p1 B.length c1, .slice p2 out.length c2, .int .i64 (at_ : Int), .int .i64 free], Row U5 p1 B.length c1 B, Row U5 p2 out.length c2 out] h) => lw_close hh)).trans (sub (.cons rr1 (rz1 .nil)) dd0))
theorem c_outW (b : Nat) (bs : List Int) (hl : bs.length < 500000000) : Ctr Tryz.prog 76 [.pointer (some ⟨b, 0, none⟩)] [WB b bs] (Ret fun v G => ∃ out fr q c, BitP.Pk bs out fr ∧ fr < 8 ∧ v = .slice q out.length c ∧ G = [Row U5 q out.length c out]) := by
 intro w0 F w hi
 obtain ⟨⟨out, fr⟩, ⟨hpk, hf8⟩, hi2⟩ := hi.opn (fun h hh => hh)
 dsimp only at hpk hi2 hf8
 have hlen := hpk.len
 refine (c_out b [] 0 out (fr : Int) (by omega) w0 F w hi2).mono ?_
 rintro e w' ⟨G, h1, v, rfl, q, c, rfl, rfl⟩
 exact ⟨[Row U5 q out.length c out], (h1.perm (.swap _ _ _)).tail, _, rfl, out, fr, q, c, hpk, hf8, rfl, rfl⟩
theorem h_put_yes (b : Nat) (ls : List Int) (b2 : Nat) (bs : List Int) (x : Int) (hE : HuffP.newE ls = 0) (hb : HuffP.lkB ls x = true) (hl : bs.length < 300000000) : Ctr Tryz.prog 81 [.pointer (some ⟨b, 0, none⟩), .pointer (some ⟨b2, 0, none⟩), .int .i64 x] [HC b ls, WB b2 bs] (Ret fun v G => v = .bool true ∧ G = [HC b ls, WB b2 (bs ++ HuffP.wb ls x)]) := by
 refine spec_of [(0, _), (1, _), (2, _)] Tryz.func81 rfl Tryz.ntmps81 rfl rfl ?_
 intro w0 F
 obtain ⟨hV, hW⟩ := HuffP.newE_vl hE
 have hws := HuffP.word_small hV hW hb
 refine rT TTZhO 9 rfl ?_
 refine o_call (h_word b ls x) V.b101  rfl (rz1 .nil) rfl ?_
 rintro _ _ ⟨rfl, rfl⟩
 rw [hb]
 refine rO TTZhO 16 rfl ?_
 refine o_want rfl ?_
 refine oV (v_to (v := .bool false) (v_eqnil Tryz.underlying71 rfl rfl) rfl) ?_
 refine rOs TTZhO 15 rfl (by omega) ?_
 rw [show HuffP.lkN ls x - 1 = HuffP.lkN ls x - 1 - ((0 : Nat) : Int) from by omega]
 refine w_loop1 (fun (k : Nat) => [(1, .pointer (some ⟨b2, 0, none⟩)), (7, .int .i64 (HuffP.lkW ls x)), (10, .int .i64 (HuffP.lkN ls x - 1 - (k : Int)))]) (fun (k : Nat) => HC b ls :: WB b2 (bs ++ (HuffP.wb ls x).take k) :: F) (fun (k : Nat) => (k : Int) ≤ HuffP.lkN ls x) (fun (k : Nat) => (HuffP.lkN ls x).toNat - k) (i1 (0) ?_ (lc3 ln) (by show Sub _ (HC b ls :: WB b2 (bs ++ (HuffP.wb ls x).take 0) :: F); rw [List.take_zero, List.append_nil]; exact (sub (rz2 .nil) dd0))) ?_
 ·exact (by omega)
 intro k
 rintro hk
 refine rL TTZhO 7 rfl ?_
 refine w_condD rfl (fun h27 => ?_) (fun h27 => ?_)
 ·refine rC TTZhO 4 rfl ?_
  have hdn := BitP.div_nn hws.1 ((HuffP.lkN ls x).toNat - 1 - k)
  refine rC TTZhO 4 rfl ?_
  refine oV (v_shr (r := HuffP.lkW ls x / 2 ^ ((HuffP.lkN ls x).toNat - 1 - k)) rfl rfl (by omega) (BitP.shrI (by omega) (by omega))) ?_
  refine o_call (c_put b2 (bs ++ (HuffP.wb ls x).take k) (HuffP.lkW ls x / 2 ^ ((HuffP.lkN ls x).toNat - 1 - k)) 1 (by omega) (by omega) (by rw [List.length_append, List.length_take]; omega)) V.b74  rfl (.cons rr1 .nil) rfl ?_
  rintro _ _ ⟨rfl, rfl⟩
  refine rOs TTZhO 8 rfl (by omega) ?_
  rw [BitP.lowB_one, List.append_assoc, HuffP.wb_take (by omega), show HuffP.lkN ls x - 1 - (k : Int) - 1 = HuffP.lkN ls x - 1 - ((k + 1 : Nat) : Int) from by omega]
  refine j1 (k + 1) ?_ (lc3 ln) (sub (.cons rr1 (rz1 .nil)) dd0)
  exact ⟨by omega, by omega⟩
 ·refine rC TTZhO 11 rfl ?_
  rw [List.take_of_length_le (by rw [HuffP.wb_len]; omega)]
  exact ret_ok (res1 rfl) ⟨rfl, rfl⟩ (sub (rz2 .nil) dd0)
end Go.Proofs.YtmbljkghkcgejaaGreat
namespace Go.Sl
abbrev TK : Ec DefP.Tok := ⟨109, 3, fun t => [.int .i64 t.lit, .int .i64 t.n, .int .i64 t.far], ⟨0, 0, 0⟩, fun _ => rfl, fun _ => rfl⟩
theorem wb_new {b : Nat} {w0 : World} {h : Hp} (hh : Cel b 89 [.slice none 0 0, .slice none 0 0, .int .i64 0, .int .i64 0] w0 h) : WB b [] w0 h :=
 ⟨([], 0), ⟨BitP.pk_nil, by decide⟩, h, fun _ => none, fun _ => .inr rfl, Hp.le_refl _, (fun _ _ e => by cases e), ⟨⟨none, 0, none, 0⟩, trivial, h, fun _ => none, fun _ => .inr rfl, Hp.le_refl _, (fun _ _ e => by cases e), hh, fun _ => none, fun _ => none, fun _ => .inl rfl, (fun _ _ e => by cases e), (fun _ _ e => by cases e), Row.nil _ _ _, fun _ => none, fun _ => none, fun _ => .inl rfl, (fun _ _ e => by cases e), (fun _ _ e => by cases e), Row.nil _ _ _, trivial⟩, trivial⟩
end Go.Sl

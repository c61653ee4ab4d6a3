/- Walks of functions that the law reaches, and what they lean on; no conditions. -/
import Derived.Test.YtmbljkghkcgejaaGreatM30
import Derived.Test.YtmbljkghkcgejaaGreatSl22
import Derived.KernelRfl
import Derived.Test.YtmbljkghkcgejaaGreatM43
import Derived.Test.YtmbljkghkcgejaaGreatM50
import Derived.Test.YtmbljkghkcgejaaGreatM52
import Derived.Test.YtmbljkghkcgejaaGreatM46
import Derived.Test.YtmbljkghkcgejaaGreatM34
import Derived.Test.YtmbljkghkcgejaaGreatSl25
set_option linter.unusedVariables false
set_option linter.unusedSimpArgs false
set_option maxRecDepth 100000
namespace Go.Proofs.YtmbljkghkcgejaaGreat
open Go.Sl 
theorem TTZlA : okT Tryz.prog ⟨[22], []⟩ = true := by kernel_rfl
attribute [local irreducible] DefP.shF InfP.Res DefP.most BitP.Byt ZlP.adl
set_option maxHeartbeats 2000000 in
theorem z_more (p : Option Addr) (c : Nat) (B : List Int) (R : HProp) (hR : ∀ w0 h, R w0 h → RdR U5 p B.length B w0 h) (hl : B.length < 500000000) (hB : BitP.Byt B) : Ctr Tryz.prog 42 [.int .u32 1, .slice p B.length c] [R] (Ret fun v G => v = .int .u32 (ZlP.adN B) ∧ G = [R]) := by
 refine spec_of [(0, _), (1, _)] Tryz.func42 rfl Tryz.ntmps42 rfl rfl ?_
 intro w0 F
 refine rT TTZlA 8 rfl ?_
 refine oV (v_and (r := 1) rfl rfl rfl) ?_
 refine oV (v_move rfl) ?_
 refine oV (v_shr (r := 0) rfl rfl (by decide) rfl) ?_
 refine rO TTZlA 13 rfl ?_
 rw [show ((5 : Nat), Value.int .u32 1) = (5, .int .u32 (ZlP.adl (B.take 0)).1) from by rw [List.take_zero, ZlP.adl_nil], show ((6 : Nat), Value.int .u32 0) = (6, .int .u32 (ZlP.adl (B.take 0)).2) from by rw [List.take_zero, ZlP.adl_nil]]
 refine w_loop1 (fun (i : Nat) => [(5, .int .u32 (ZlP.adl (B.take i)).1), (6, .int .u32 (ZlP.adl (B.take i)).2), (13, .slice p B.length c), (14, .int .i64 (B.length : Int)), (15, .int .i64 (i : Int))]) (fun (i : Nat) => R :: F) (fun (i : Nat) => i ≤ B.length) (fun (i : Nat) => B.length - i) (i1 (0) ?_ (lc5 ln) (sub (rz1 .nil) dd0)) ?_
 ·exact Nat.zero_le _
 intro i
 rintro hi
 refine rL TTZlA 6 rfl ?_
 refine w_condD rfl (fun h16 => ?_) (fun h16 => ?_)
 ·refine rC TTZlA 6 rfl ?_
  refine oV (xI V.sl22 (by exact rdH hR mm0)) ?_
  refine oV (xL V.s5 (by exact rdH hR mm0)) ?_
  refine rO TTZlA 4 rfl ?_
  have hv : 0 ≤ (U5.g B (i : Int)) ∧ (U5.g B (i : Int)) < 256 := hB.get i
  have hs := ZlP.adl_in (B.take i)
  refine rC TTZlA 3 rfl ?_
  refine oV (v_conv V.u5 Tryz.underlying48 rfl (ZlP.wrap32 (by omega) (by omega))) ?_
  refine oV (v_add rfl rfl (ZlP.wrap32 (by omega) (by omega))) ?_
  refine oV (v_rem (r := ((ZlP.adl (B.take i)).1 + (U5.g B (i : Int))) % 65521) rfl rfl (by omega) (remI (by omega))) ?_
  refine rO TTZlA 6 rfl ?_
  refine oV (v_add rfl rfl (ZlP.wrap32 (by omega) (by omega))) ?_
  refine oV (v_rem (r := ((ZlP.adl (B.take i)).2 + ((ZlP.adl (B.take i)).1 + (U5.g B (i : Int))) % 65521) % 65521) rfl rfl (by omega) (remI (by omega))) ?_
  refine rOs TTZlA 8 rfl (by omega) ?_
  have e5 : ((ZlP.adl (B.take i)).1 + (U5.g B (i : Int))) % 65521 = (ZlP.adl (B.take (i + 1))).1 := by rw [ZlP.adl_take (by omega)]; rfl
  have e6 : ((ZlP.adl (B.take i)).2 + (ZlP.adl (B.take (i + 1))).1) % 65521 = (ZlP.adl (B.take (i + 1))).2 := by rw [ZlP.adl_take (by omega)]; rfl
  rw [e5, e6]
  exact j1 (i + 1) ⟨by omega, by omega⟩ (lc5 ln) (sub (rz1 .nil) dd0)
 ·refine rC TTZlA 6 rfl ?_
  obtain rfl : i = B.length := by omega
  rw [List.take_length]
  have hs := ZlP.adl_in B
  refine rC TTZlA 2 rfl ?_
  refine oV (v_shl (r := (ZlP.adl B).2 * 65536) rfl rfl (by decide) (ZlP.shlU (n := 16) rfl (by decide) rfl (by omega) (by omega))) ?_
  refine oV (v_move rfl) ?_
  refine oV (v_or (r := (ZlP.adl B).2 * 65536 + (ZlP.adl B).1) rfl rfl (ZlP.or32 (u := (ZlP.adl B).2) (n := 16) rfl (by omega) (by omega) (by omega))) ?_
  refine rO TTZlA 4 rfl ?_
  exact ret_ok (res1 rfl) ⟨by unfold ZlP.adN; rfl, rfl⟩ (sub (rz1 .nil) dd0)
theorem z_adler (p : Option Addr) (c : Nat) (B : List Int) (R : HProp) (hR : ∀ w0 h, R w0 h → RdR U5 p B.length B w0 h) (hl : B.length < 500000000) (hB : BitP.Byt B) : Ctr Tryz.prog 26 [.slice p B.length c] [R] (Ret fun v G => v = .int .u32 (ZlP.adN B) ∧ G = [R]) := by
 refine spec_of [(0, _)] Tryz.func26 rfl Tryz.ntmps26 rfl rfl ?_
 intro w0 F
 refine rT TTZlA 8 rfl ?_
 refine o_call (z_more p c B R hR hl hB) V.b42  rfl (rz1 .nil) rfl ?_
 rintro _ _ ⟨rfl, rfl⟩
 refine rO TTZlA 4 rfl ?_
 exact ret_ok (res1 rfl) ⟨rfl, rfl⟩ (sub (rz1 .nil) dd0)
set_option maxHeartbeats 2000000 in
theorem z_head (p : Option Addr) (c : Nat) (B : List Int) (R : HProp) (hR : ∀ w0 h, R w0 h → RdR U5 p B.length B w0 h) (hl : 2 ≤ B.length) (hB : BitP.Byt B) (t : Bool) (ht : t = decide (ZlP.Hd (B.getD 0 0) (B.getD 1 0))) : Ctr Tryz.prog 13 [.slice p B.length c] [R] (Ret fun v G => v = .bool t ∧ G = [R]) := by
 refine spec_of [(0, _)] Tryz.func13 rfl Tryz.ntmps13 rfl rfl ?_
 intro w0 F
 have hv : 0 ≤ (U5.g B 0) ∧ (U5.g B 0) < 256 := hB.get 0
 have hw : 0 ≤ (U5.g B 1) ∧ (U5.g B 1) < 256 := hB.get 1
 have ht2 : t = decide (ZlP.Hd (U5.g B 0) (U5.g B 1)) := ht
 clear ht
 refine rT TTZlA 6 rfl ?_
 refine w_rd V.mixed (by kernel_rfl) ?_
 refine oR (v_move rfl) ?_
 refine oR (xI V.sl22 (by exact rdH hR mm0)) ?_
 refine oR (xL V.s5 (by exact rdH hR mm0)) ?_
 refine oR (v_conv V.u5 Tryz.underlying3 rfl wI) ?_
 refine oR (v_move rfl) ?_
 refine oR (xI V.sl22 (by exact rdH hR mm0)) ?_
 refine oR (xL V.s5 (by exact rdH hR mm0)) ?_
 refine oR (v_conv V.u5 Tryz.underlying3 rfl wI) ?_
 refine rR TTZlA 2 rfl ?_
 refine Rg.o_nil ?_
 refine thn_n ?_
 rcases (ZlP.hd_or (U5.g B 0) (U5.g B 1)) with h1 | ⟨h1, h2⟩ | ⟨h1, h2, h3⟩ | ⟨h1, h2, h3, h4⟩ | ⟨h1, h2, h3, h4⟩
 ·refine rC TTZlA 3 rfl ?_
  refine oV (v_and (r := (U5.g B 0) % 16) rfl rfl (ZlP.and15 hv)) ?_
  refine oV (v_F (v_eql rfl rfl) (by omega)) ?_
  refine rO TTZlA 22 rfl ?_
  (obtain rfl : t = false := ht2.trans (decide_eq_false (by unfold ZlP.Hd; intro hh; omega)); exact ret_ok (G := [R]) (res1 rfl) ⟨rfl, rfl⟩ (sub (rz1 .nil) dd0))
 ·refine rC TTZlA 3 rfl ?_
  refine oV (v_and (r := (U5.g B 0) % 16) rfl rfl (ZlP.and15 hv)) ?_
  refine oV (v_T (v_eql rfl rfl) (by omega)) ?_
  refine rO TTZlA 2 rfl ?_
  refine o_want rfl ?_
  refine oV (v_shr (r := (U5.g B 0) / 16) rfl rfl (by decide) (ZlP.sh4 hv.1)) ?_
  refine o_want rfl ?_
  refine oV (v_F (v_leq rfl rfl) (by omega)) ?_
  refine rO TTZlA 18 rfl ?_
  (obtain rfl : t = false := ht2.trans (decide_eq_false (by unfold ZlP.Hd; intro hh; omega)); exact ret_ok (G := [R]) (res1 rfl) ⟨rfl, rfl⟩ (sub (rz1 .nil) dd0))
 ·refine rC TTZlA 3 rfl ?_
  refine oV (v_and (r := (U5.g B 0) % 16) rfl rfl (ZlP.and15 hv)) ?_
  refine oV (v_T (v_eql rfl rfl) (by omega)) ?_
  refine rO TTZlA 2 rfl ?_
  refine o_want rfl ?_
  refine oV (v_shr (r := (U5.g B 0) / 16) rfl rfl (by decide) (ZlP.sh4 hv.1)) ?_
  refine o_want rfl ?_
  refine oV (v_T (v_leq rfl rfl) (by omega)) ?_
  refine rO TTZlA 3 rfl ?_
  refine o_want rfl ?_
  refine oV (v_shl (r := (U5.g B 0) * 256) rfl rfl (by decide) (ZlP.shlI (n := 8) rfl (by decide) rfl (by omega) (by omega))) ?_
  refine o_want rfl ?_
  refine oV (v_move rfl) ?_
  refine o_want rfl ?_
  refine oV (v_or (r := (U5.g B 0) * 256 + (U5.g B 1)) rfl rfl (ZlP.or64 (u := (U5.g B 0)) (n := 8) rfl hv.1 (by omega) (by omega))) ?_
  refine o_want rfl ?_
  refine oV (v_rem (r := ((U5.g B 0) * 256 + (U5.g B 1)) % 31) rfl rfl (by omega) (remI (by omega))) ?_
  refine o_want rfl ?_
  refine oV (v_F (v_eql rfl rfl) (by omega)) ?_
  refine rO TTZlA 10 rfl ?_
  (obtain rfl : t = false := ht2.trans (decide_eq_false (by unfold ZlP.Hd; intro hh; omega)); exact ret_ok (G := [R]) (res1 rfl) ⟨rfl, rfl⟩ (sub (rz1 .nil) dd0))
 ·refine rC TTZlA 3 rfl ?_
  refine oV (v_and (r := (U5.g B 0) % 16) rfl rfl (ZlP.and15 hv)) ?_
  refine oV (v_T (v_eql rfl rfl) (by omega)) ?_
  refine rO TTZlA 2 rfl ?_
  refine o_want rfl ?_
  refine oV (v_shr (r := (U5.g B 0) / 16) rfl rfl (by decide) (ZlP.sh4 hv.1)) ?_
  refine o_want rfl ?_
  refine oV (v_T (v_leq rfl rfl) (by omega)) ?_
  refine rO TTZlA 3 rfl ?_
  refine o_want rfl ?_
  refine oV (v_shl (r := (U5.g B 0) * 256) rfl rfl (by decide) (ZlP.shlI (n := 8) rfl (by decide) rfl (by omega) (by omega))) ?_
  refine o_want rfl ?_
  refine oV (v_move rfl) ?_
  refine o_want rfl ?_
  refine oV (v_or (r := (U5.g B 0) * 256 + (U5.g B 1)) rfl rfl (ZlP.or64 (u := (U5.g B 0)) (n := 8) rfl hv.1 (by omega) (by omega))) ?_
  refine o_want rfl ?_
  refine oV (v_rem (r := ((U5.g B 0) * 256 + (U5.g B 1)) % 31) rfl rfl (by omega) (remI (by omega))) ?_
  refine o_want rfl ?_
  refine oV (v_T (v_eql rfl rfl) (by omega)) ?_
  refine rO TTZlA 3 rfl ?_
  refine o_want rfl ?_
  refine oV (v_and (r := 32 * ((U5.g B 1) / 32 % 2)) rfl rfl (ZlP.and32 hw)) ?_
  refine o_want rfl ?_
  refine oV (v_F (v_eql rfl rfl) (by omega)) ?_
  refine rO TTZlA 5 rfl ?_
  (obtain rfl : t = false := ht2.trans (decide_eq_false (by unfold ZlP.Hd; intro hh; omega)); exact ret_ok (G := [R]) (res1 rfl) ⟨rfl, rfl⟩ (sub (rz1 .nil) dd0))
 ·refine rC TTZlA 3 rfl ?_
  refine oV (v_and (r := (U5.g B 0) % 16) rfl rfl (ZlP.and15 hv)) ?_
  refine oV (v_T (v_eql rfl rfl) (by omega)) ?_
  refine rO TTZlA 2 rfl ?_
  refine o_want rfl ?_
  refine oV (v_shr (r := (U5.g B 0) / 16) rfl rfl (by decide) (ZlP.sh4 hv.1)) ?_
  refine o_want rfl ?_
  refine oV (v_T (v_leq rfl rfl) (by omega)) ?_
  refine rO TTZlA 3 rfl ?_
  refine o_want rfl ?_
  refine oV (v_shl (r := (U5.g B 0) * 256) rfl rfl (by decide) (ZlP.shlI (n := 8) rfl (by decide) rfl (by omega) (by omega))) ?_
  refine o_want rfl ?_
  refine oV (v_move rfl) ?_
  refine o_want rfl ?_
  refine oV (v_or (r := (U5.g B 0) * 256 + (U5.g B 1)) rfl rfl (ZlP.or64 (u := (U5.g B 0)) (n := 8) rfl hv.1 (by omega) (by omega))) ?_
  refine o_want rfl ?_
  refine oV (v_rem (r := ((U5.g B 0) * 256 + (U5.g B 1)) % 31) rfl rfl (by omega) (remI (by omega))) ?_
  refine o_want rfl ?_
  refine oV (v_T (v_eql rfl rfl) (by omega)) ?_
  refine rO TTZlA 3 rfl ?_
  refine o_want rfl ?_
  refine oV (v_and (r := 32 * ((U5.g B 1) / 32 % 2)) rfl rfl (ZlP.and32 hw)) ?_
  refine o_want rfl ?_
  refine oV (v_T (v_eql rfl rfl) (by omega)) ?_
  refine rO TTZlA 5 rfl ?_
  (obtain rfl : t = true := ht2.trans (decide_eq_true (by unfold ZlP.Hd; exact ⟨h1, h2, h3, h4⟩)); exact ret_ok (G := [R]) (res1 rfl) ⟨rfl, rfl⟩ (sub (rz1 .nil) dd0))
set_option maxHeartbeats 2000000 in
theorem z_sum (p : Option Addr) (c : Nat) (B : List Int) (R : HProp) (hR : ∀ w0 h, R w0 h → RdR U5 p B.length B w0 h) (hl : B.length < 500000000) (hB : BitP.Byt B) : Ctr Tryz.prog 15 [.slice p B.length c] [R] (Ret fun v G => v = .string (strOfNums (ZlP.adB B)) ∧ G = [R]) := by
 refine spec_of [(0, _)] Tryz.func15 rfl Tryz.ntmps15 rfl rfl ?_
 intro w0 F
 have hn := ZlP.adN_in B
 refine rT TTZlA 8 rfl ?_
 refine o_call (z_adler p c B R hR hl hB) V.b26  rfl (rz1 .nil) rfl ?_
 rintro _ _ ⟨rfl, rfl⟩
 refine rO TTZlA 6 rfl ?_
 refine oV (v_shr (r := ZlP.adN B / 2 ^ 24) rfl rfl (by decide) (ZlP.shrU (n := 24) rfl (by decide))) ?_
 refine oV (v_conv V.u48 Tryz.underlying5 rfl ((BitP.u8_mod _).trans (show (ZlP.adN B / 2 ^ 24) % 256 = ZlP.adN B / 16777216 from by omega))) ?_
 refine oV (v_move rfl) ?_
 refine oV (v_shr (r := ZlP.adN B / 2 ^ 16) rfl rfl (by decide) (ZlP.shrU (n := 16) rfl (by decide))) ?_
 refine oV (v_conv V.u48 Tryz.underlying5 rfl ((BitP.u8_mod _).trans (show (ZlP.adN B / 2 ^ 16) % 256 = ZlP.adN B / 65536 % 256 from by omega))) ?_
 refine oV (v_move rfl) ?_
 refine oV (v_shr (r := ZlP.adN B / 2 ^ 8) rfl rfl (by decide) (ZlP.shrU (n := 8) rfl (by decide))) ?_
 refine oV (v_conv V.u48 Tryz.underlying5 rfl ((BitP.u8_mod _).trans (show (ZlP.adN B / 2 ^ 8) % 256 = ZlP.adN B / 256 % 256 from by omega))) ?_
 refine oV (v_move rfl) ?_
 refine oV (v_conv V.u48 Tryz.underlying5 rfl ((BitP.u8_mod _).trans (show (ZlP.adN B) % 256 = ZlP.adN B % 256 from by omega))) ?_
 refine r_build (U5) (ZlP.adB B) V.sl22 V.z5 rfl rfl rfl rfl rfl rfl ?_
 intro b17
 refine oV (v_str (T := 5) Tryz.underlying22 Tryz.underlying5 Tryz.underlying9 rfl (own mm0)) ?_
 refine rO TTZlA 4 rfl ?_
 exact ret_ok (res1 rfl) ⟨rfl, rfl⟩ (sub (.cons rr1 .nil) dd1)
end Go.Proofs.YtmbljkghkcgejaaGreat
namespace Go.Proofs.YtmbljkghkcgejaaGreat
open Go.Sl 
theorem TTZlB : okT Tryz.prog ⟨[22], []⟩ = true := by kernel_rfl
attribute [local irreducible] DefP.shF InfP.Res DefP.most BitP.Byt ZlP.adl ZlP.adB ZlP.adN
section
variable {C : Ctx} {E : Env} {L : List HProp} {ty : TypeId}
theorem v_sne {x y : Operand} {t t' : TypeId} {s u : ByteArray} {r : Bool} (hr : (s.toList == u.toList) = r) (hx : evalE E x = some (.string s)) (hy : evalE E y = some (.string u)) : OpV C (.binOp .neq t x y t') ty E L (.bool (!r)) L :=
 pureV fun d pos aft g a w ha => by
  rw [run_bin d pos aft g (ha.eval hx) (ha.eval hy) (by simp [eqGuard])]
  simp [binOp, Op.stringOp, Sem.run_pure, ← hr, bne]
end
theorem c_allZ (p : Option Addr) (c n : Nat) (L : List Int) (R : HProp) (hR : ∀ w0 h, R w0 h → RdR U5 p n L w0 h) (hn : L.length = n) (hl : n < 500000000) (hB : BitP.Byt L) (mo : Int) (hm : mo < 500000000) (x : List Int) (u e : Int) (hq : InfP.Res L mo (x, u, e)) : Ctr Tryz.prog 14 [.slice p n c, .int .i64 mo] [R] (Ret fun v G => ∃ qq cq, v = .tuple #[.slice qq x.length cq, .int .i64 u, .int .i64 e] ∧ G = [Row U5 qq x.length cq x, R]) := by
 subst hn
 exact c_all p c L R hR hl hB mo hm (x, u, e) hq
set_option maxHeartbeats 4000000 in
theorem z_open (p : Option Addr) (c : Nat) (B : List Int) (R : HProp) (hR : ∀ w0 h, R w0 h → RdR U5 p B.length B w0 h) (hcap : B.length ≤ c) (hl : B.length < 500000000) (hB : BitP.Byt B) (mo : Int) (hm : mo < 500000000) (q : List Int × Int) (hq : ZlP.Opn B mo q) : Ctr Tryz.prog 8 [.slice p B.length c, .int .i64 mo] [R] (Ret fun v G => ∃ qq cq, v = .tuple #[.slice qq q.1.length cq, .int .i64 q.2] ∧ G = [Row U5 qq q.1.length cq q.1, R]) := by
 refine spec_of [(0, _), (1, _)] Tryz.func8 rfl Tryz.ntmps8 rfl rfl ?_
 intro w0 F
 refine rT TTZlB 8 rfl ?_
 rcases (hq.way3 hB hm) with ⟨hb6, rfl⟩ | ⟨hb6, hhd, rfl⟩ | ⟨x, n, e, hb6, hhd, hr, hxB, hxl, hn, hws⟩
 ·refine rC TTZlB 4 rfl ?_
  refine oV (v_T (v_lss rfl rfl) (by omega)) ?_
  refine rO TTZlB 13 rfl ?_
  exact ret_ok (res2 rfl rfl) ⟨none, 0, rfl, rfl⟩ (Sl.Sub.trans (sub_add0 (A := Row U5 none 0 0 []) (fun w0 => Row.nil U5 w0 _)) (sub (rz2 .nil) dd0))
 ·refine rC TTZlB 4 rfl ?_
  refine oV (v_F (v_lss rfl rfl) (by omega)) ?_
  refine rO TTZlB 7 rfl ?_
  refine o_call (z_head p c B R hR (by omega) hB false (decide_eq_false hhd).symm) V.b13  rfl (rz1 .nil) rfl ?_
  rintro _ _ ⟨rfl, rfl⟩
  refine rO TTZlB 14 rfl ?_
  exact ret_ok (res2 rfl rfl) ⟨none, 0, rfl, rfl⟩ (Sl.Sub.trans (sub_add0 (A := Row U5 none 0 0 []) (fun w0 => Row.nil U5 w0 _)) (sub (rz2 .nil) dd0))
 ·refine rC TTZlB 4 rfl ?_
  refine oV (v_F (v_lss rfl rfl) (by omega)) ?_
  refine rO TTZlB 7 rfl ?_
  refine o_call (z_head p c B R hR (by omega) hB true (decide_eq_true hhd).symm) V.b13  rfl (rz1 .nil) rfl ?_
  rintro _ _ ⟨rfl, rfl⟩
  refine rO TTZlB 9 rfl ?_
  have hB2 := ZlP.byt_drop hB 2
  have hD2 : ∀ w0 h, R w0 h → RdR U5 (subP p 2 c 1) (B.length - 2) (B.drop 2) w0 h := fun w0 h hh => rdr_drop (c := U5) hR rfl 2 c (by omega) hcap w0 h hh
  refine rC TTZlB 2 rfl ?_
  refine oV (v_slice 2 _ _ V.sl22 rfl ⟨_, rfl⟩ ⟨rfl, rfl⟩ rfl (by omega) (by omega) (by omega)) ?_
  refine oV (v_move rfl) ?_
  refine o_call (c_allZ (subP p 2 c 1) (c - 2) (B.length - 2) (B.drop 2) R hD2 List.length_drop (by omega) hB2 mo hm x (n : Int) e hr) V.b14  rfl (rz1 .nil) rfl ?_
  rintro _ _ ⟨q22, c22, rfl, rfl⟩
  refine rO TTZlB 10 rfl ?_
  have hBn := ZlP.byt_drop hB (2 + n)
  have hDn : ∀ w0 h, R w0 h → RdR U5 (subP p (2 + n) c 1) (B.length - (2 + n)) (B.drop (2 + n)) w0 h := fun w0 h hh => rdr_drop (c := U5) hR rfl (2 + n) c (by omega) hcap w0 h hh
  refine rC TTZlB 3 rfl ?_
  refine oV (v_to (v := .int .i64 ((2 + n : Nat) : Int)) (v_add rfl rfl wI) (by congr 1)) ?_
  refine oV (v_slice (2 + n) B.length c V.sl22 rfl ⟨_, rfl⟩ ⟨rfl, rfl⟩ rfl (by omega) (by omega) (by omega)) ?_
  refine rO TTZlB 5 rfl ?_
  rcases (hws) with ⟨he, rfl⟩ | ⟨he, h4, rfl⟩ | ⟨he, h4, rfl⟩ | ⟨he, h4, hne, rfl⟩ | ⟨he, h4, heq, rfl⟩
  ·refine rC TTZlB 3 rfl ?_
   refine oV (v_T (v_neq rfl rfl) he) ?_
   refine rO TTZlB 14 rfl ?_
   exact ret_ok (res2 rfl rfl) ⟨none, 0, rfl, rfl⟩ (Sl.Sub.trans (sub_add0 (A := Row U5 none 0 0 []) (fun w0 => Row.nil U5 w0 _)) (sub (rz1 (.cons rr1 .nil)) dd1))
  ·refine rC TTZlB 3 rfl ?_
   refine oV (v_F (v_neq rfl rfl) (fun h => h he)) ?_
   refine rO TTZlB 8 rfl ?_
   refine oV (v_T (v_lss rfl rfl) (by omega)) ?_
   refine rO TTZlB 13 rfl ?_
   exact ret_ok (res2 rfl rfl) ⟨none, 0, rfl, rfl⟩ (Sl.Sub.trans (sub_add0 (A := Row U5 none 0 0 []) (fun w0 => Row.nil U5 w0 _)) (sub (rz1 (.cons rr1 .nil)) dd1))
  ·refine rC TTZlB 3 rfl ?_
   refine oV (v_F (v_neq rfl rfl) (fun h => h he)) ?_
   refine rO TTZlB 8 rfl ?_
   refine oV (v_F (v_lss rfl rfl) (by omega)) ?_
   refine rO TTZlB 8 rfl ?_
   refine oV (v_T (v_gtr rfl rfl) (by omega)) ?_
   refine rO TTZlB 13 rfl ?_
   exact ret_ok (res2 rfl rfl) ⟨none, 0, rfl, rfl⟩ (Sl.Sub.trans (sub_add0 (A := Row U5 none 0 0 []) (fun w0 => Row.nil U5 w0 _)) (sub (rz1 (.cons rr1 .nil)) dd1))
  ·refine rC TTZlB 3 rfl ?_
   refine oV (v_F (v_neq rfl rfl) (fun h => h he)) ?_
   refine rO TTZlB 8 rfl ?_
   refine oV (v_F (v_lss rfl rfl) (by omega)) ?_
   refine rO TTZlB 8 rfl ?_
   refine oV (v_F (v_gtr rfl rfl) (by omega)) ?_
   refine rO TTZlB 5 rfl ?_
   refine wN [pz 0 [] [9], pz 1 [0] [], pz 0 [] [6], pz 4 [2] [], pz 15 [1, 3] [], pz 31 [4] []] [⟨fun y => Row U5 q22 x.length c22 x, none, some 3, []⟩, ⟨fun y => R, none, none, [1]⟩, ⟨fun y => Row U5 q22 x.length c22 x, some 3, none, []⟩] F V.mixed ?_
   refine nM ?_
   refine nR (fun y FF hA => v_str (T := 5) Tryz.underlying22 Tryz.underlying5 Tryz.underlying9 rfl (by exact rdH hDn mm0)) ?_
   refine nM ?_
   refine nE (fun y FF hA => st_callN (Post := [Row U5 q22 x.length c22 x]) (z_sum q22 c22 x (Row U5 q22 x.length c22 x) (fun _ _ hh => hh.rd) (by omega) hxB) V.b15 rfl (rz1 .nil) (fun v G h => by rcases h with ⟨rfl, rfl⟩; exact ⟨rfl, .refl _⟩)) ?_
   refine nV (fun y hA L => v_to (v := .bool true) (v_sne (ba_ne (ZlP.byt_all hBn) (ZlP.byt_all (ZlP.adB_byt x)) hne) rfl rfl) rfl) ?_
   refine nA ?_
   refine net_nil ?_
   intro y hA
   clear hA
   refine thn_n ?_
   refine w_keep _ (.cons (d := 6) rfl (.cons (d := 42) rfl (.nil _))) ?_
   refine w_sub (M := R :: Row U5 q22 x.length c22 x :: F) (fun _ _ h => h) ?_
   refine rC TTZlB 10 rfl ?_
   exact ret_ok (res2 rfl rfl) ⟨none, 0, rfl, rfl⟩ (Sl.Sub.trans (sub_add0 (A := Row U5 none 0 0 []) (fun w0 => Row.nil U5 w0 _)) (sub (rz2 .nil) dd1))
  ·refine rC TTZlB 3 rfl ?_
   refine oV (v_F (v_neq rfl rfl) (fun h => h he)) ?_
   refine rO TTZlB 8 rfl ?_
   refine oV (v_F (v_lss rfl rfl) (by omega)) ?_
   refine rO TTZlB 8 rfl ?_
   refine oV (v_F (v_gtr rfl rfl) (by omega)) ?_
   refine rO TTZlB 5 rfl ?_
   refine wN [pz 0 [] [9], pz 1 [0] [], pz 0 [] [6], pz 4 [2] [], pz 15 [1, 3] [], pz 31 [4] []] [⟨fun y => Row U5 q22 x.length c22 x, none, some 3, []⟩, ⟨fun y => R, none, none, [1]⟩, ⟨fun y => Row U5 q22 x.length c22 x, some 3, none, []⟩] F V.mixed ?_
   refine nM ?_
   refine nR (fun y FF hA => v_str (T := 5) Tryz.underlying22 Tryz.underlying5 Tryz.underlying9 rfl (by exact rdH hDn mm0)) ?_
   refine nM ?_
   refine nE (fun y FF hA => st_callN (Post := [Row U5 q22 x.length c22 x]) (z_sum q22 c22 x (Row U5 q22 x.length c22 x) (fun _ _ hh => hh.rd) (by omega) hxB) V.b15 rfl (rz1 .nil) (fun v G h => by rcases h with ⟨rfl, rfl⟩; exact ⟨rfl, .refl _⟩)) ?_
   refine nV (fun y hA L => v_to (v := .bool false) (v_sne (r := true) (by rw [heq]; exact beq_self_eq_true _) rfl rfl) rfl) ?_
   refine nA ?_
   refine net_nil ?_
   intro y hA
   clear hA
   refine thn_n ?_
   refine w_keep _ (.cons (d := 6) rfl (.cons (d := 42) rfl (.nil _))) ?_
   refine w_sub (M := R :: Row U5 q22 x.length c22 x :: F) (fun _ _ h => h) ?_
   refine rC TTZlB 12 rfl ?_
   exact ret_ok (res2 rfl rfl) ⟨q22, c22, rfl, rfl⟩ (sub (.cons rr1 (rz1 .nil)) dd0)
set_option maxHeartbeats 2000000 in
theorem z_close (p : Option Addr) (c : Nat) (B : List Int) (R : HProp) (hR : ∀ w0 h, R w0 h → RdR U5 p B.length B w0 h) (hl : B.length ≤ 4194304) (hB : BitP.Byt B) : Ctr Tryz.prog 11 [.slice p B.length c] [R] (Ret fun v G => ∃ qq cq, v = .slice qq (ZlP.zS B).length cq ∧ G = [Row U5 qq (ZlP.zS B).length cq (ZlP.zS B), R]) := by
 refine spec_of [(0, _)] Tryz.func11 rfl Tryz.ntmps11 rfl rfl ?_
 intro w0 F
 have hsl := DefP.shF_bd (B := B) hB hl
 refine rT TTZlB 10 rfl ?_
 refine oV (v_F (v_gtr rfl rfl) (by omega)) ?_
 refine rO TTZlB 7 rfl ?_
 refine r_build (U5) [120, 1] V.sl22 V.z5 rfl rfl rfl rfl rfl rfl ?_
 intro b7
 refine oV (v_move rfl) ?_
 refine o_call (m_all p c B R hR hl hB) V.b18  rfl (.cons rr1 .nil) rfl ?_
 rintro _ _ ⟨qz, cz, rfl, rfl⟩
 refine r_append (c := (U5)) V.sl22 V.z5 rfl rfl rfl rfl rr2 (own mm0) (by omega) rfl ?_
 intro p10 c10
 refine rO TTZlB 7 rfl ?_
 refine o_call (z_sum p c B R hR (by omega) hB) V.b15  rfl (.cons rr2 .nil) rfl ?_
 rintro _ _ ⟨rfl, rfl⟩
 refine r_appendS (T := 5) V.sl22 Tryz.underlying9 V.z5 rfl rfl rfl (ZlP.byt_all (ZlP.adB_byt B)) rr1 (by rw [ZlP.adB_len]; omega) rfl ?_
 intro p14 c14
 refine rO TTZlB 4 rfl ?_
 have hle : (2 + (DefP.shF B).length + (ZlP.adB B).length) = (ZlP.zS B).length := by rw [ZlP.zS_len, ZlP.adB_len]; omega
 rw [hle, show [120, 1] ++ DefP.shF B ++ ZlP.adB B = ZlP.zS B from rfl]
 exact ret_ok (res1 rfl) ⟨_, _, rfl, rfl⟩ (sub (rz2 .nil) dd1)
end Go.Proofs.YtmbljkghkcgejaaGreat

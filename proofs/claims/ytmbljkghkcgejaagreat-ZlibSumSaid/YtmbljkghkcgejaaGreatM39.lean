/- Walks of functions that the law reaches, and what they lean on; no conditions. -/
import Derived.Test.YtmbljkghkcgejaaGreatM30
import Derived.Test.YtmbljkghkcgejaaGreatSl22
import Derived.KernelRfl
import Derived.Test.YtmbljkghkcgejaaGreatM37
import Derived.Test.YtmbljkghkcgejaaGreatM38
import Derived.Test.YtmbljkghkcgejaaGreatM32
set_option linter.unusedVariables false
set_option linter.unusedSimpArgs false
set_option maxRecDepth 100000
namespace Go.Proofs.YtmbljkghkcgejaaGreat
open Go.Sl 
theorem TTZiD : okT Tryz.prog ⟨[77], [(96, 0, 0), (96, 1, 16)]⟩ = true := by kernel_rfl
attribute [local irreducible] HuffP.ord HuffP.wordsK HuffP.posn HuffP.cntL HuffP.mostL HuffP.words HuffP.wordOf HuffP.lenOf HuffP.newE HuffP.wholeB
attribute [local irreducible] HuffP.cntZ HuffP.sy
end Go.Proofs.YtmbljkghkcgejaaGreat
namespace Go.Proofs.YtmbljkghkcgejaaGreat
open Go.Sl 
theorem TTZiK : okT Tryz.prog ⟨[77], [(96, 0, 0), (96, 1, 16), (129, 1, 1), (129, 2, 17), (129, 3, 18)]⟩ = true := by kernel_rfl
attribute [local irreducible] HuffP.ord HuffP.wordsK HuffP.posn HuffP.cntL HuffP.mostL HuffP.words HuffP.wordOf HuffP.lenOf HuffP.newE HuffP.wholeB HuffP.wd HuffP.lkW HuffP.lkN HuffP.lkB HuffP.cls HuffP.off HuffP.tk
set_option maxHeartbeats 2000000 in
theorem h_take (b : Nat) (ls : List Int) (b2 : Nat) (B : List Int) (at_ : Nat) (out : List Int) (free : Int) (hE : HuffP.newE ls = 0) (hl : B.length < 500000000) (hB : BitP.Byt B) (ha : at_ ≤ 8 * B.length) : Ctr Tryz.prog 66 [.pointer (some ⟨b, 0, none⟩), .pointer (some ⟨b2, 0, none⟩)] [HC b ls, LW b2 B at_ out free] (RetPan (fun v G => ∃ n s, HuffP.tk ls B at_ = .hit n s ∧ v = .int .i64 s ∧ G = [HC b ls, LW b2 B (at_ + n) out free]) (fun ch G => (∃ n, HuffP.tk ls B at_ = .short n ∧ ch = pan1 91 (.agg #[]) ∧ G = [HC b ls, LW b2 B (at_ + n) out free]) ∨ (∃ n, HuffP.tk ls B at_ = .none_ n ∧ ch = pan1 92 (.agg #[]) ∧ G = [HC b ls, LW b2 B (at_ + n) out free]))) := by
 refine spec_of [(0, _), (1, _)] Tryz.func66 rfl Tryz.ntmps66 rfl rfl ?_
 intro w0 F
 have hV := (HuffP.newE_vl hE).1
 have hW := (HuffP.newE_vl hE).2
 have hcl := HuffP.cntL_len ls
 have hCb := HuffP.cntL_bound hV.1
 have hm15 := HuffP.mst_le hV
 have hme := HuffP.mst_eq ls
 refine w_opn (fun h hh => hh) ?_
 rintro ⟨p1, c1, p2, c2⟩ _
 dsimp only
 rw [hme]
 refine rT TTZiK 19 rfl ?_
 rw [show ((7 : Nat), Value.int .i64 0) = (7, .int .i64 (HuffP.off ls (0 + 1) : Int)) from by unfold HuffP.off; rfl]
 refine w_loop1 (fun (m : Nat) => [(0, .pointer (some ⟨b, 0, none⟩)), (1, .pointer (some ⟨b2, 0, none⟩)), (5, .int .i64 (BitP.acc B at_ m)), (6, .int .i64 (HuffP.base ls m + HuffP.cnt ls m)), (7, .int .i64 (HuffP.off ls (m + 1) : Int)), (8, .int .i64 ((m : Int) + 1))]) (fun (m : Nat) => Cel b 129 (CA [.slice p1 ls.length c1] .i64 (HuffP.cntL ls) [.slice p2 (HuffP.ord ls).length c2, .int .i64 (HuffP.mst ls : Int)]) :: Row W63 p1 ls.length c1 (HuffP.words ls) :: Row I3 p2 (HuffP.ord ls).length c2 (HuffP.ord ls) :: LW b2 B (at_ + m) out free :: F) (fun (m : Nat) => HuffP.Tk ls B at_ m) (fun (m : Nat) => HuffP.mst ls - m) (i1 (0) ?_ (lc1 (lc5 ln)) (sub (rz4 .nil) dd0)) ?_
 ·exact HuffP.tk_start ha
 intro m
 rintro ht
 have htl := ht.le
 refine rL TTZiK 7 rfl ?_
 refine oV (a_loadP (n := 16) 1 V.s3 rfl mm0 (by omega) rfl rfl) ?_
 refine rO TTZiK 3 rfl ?_
 refine w_condD rfl (fun h14 => ?_) (fun h14 => ?_)
 ·have hcn := HuffP.cntL_i (ls := ls) (m := m) (by omega)
  have hbf := HuffP.full_le hW (n := m + 1) (by omega)
  have hbn := HuffP.base_nn ls (m + 1)
  have hc1 := HuffP.cnt_nonneg ls (m + 1)
  have hof := HuffP.off_16 hV (m := m) (by omega)
  have hac := BitP.acc_bound B at_ (m + 1)
  have hac0 := BitP.acc_bound B at_ m
  have hp15 := HuffP.pow_15 (show m + 1 ≤ 15 by omega)
  have hp14 := HuffP.pow_15 (show m ≤ 15 by omega)
  have hb := BitP.bitL_01 B (at_ + m)
  have hnn := ht.nn
  refine rC TTZiK 4 rfl ?_
  rcases (Nat.lt_or_ge (at_ + m) (8 * B.length)) with hx | hx
  ·refine rC TTZiK 3 rfl ?_
   refine oV (v_shl (r := 2 * BitP.acc B at_ m) rfl rfl (by decide) (BitP.shl1 hac0.1 (by omega))) ?_
   refine oV (v_move rfl) ?_
   refine o_call (c_take b2 B (at_ + m) out free 1 hl hB (by omega) (by omega)) V.b56  rfl (.cons rr3 .nil) rfl ?_
   rintro _ _ ⟨rfl, rfl⟩
   rw [BitP.numL_one]
   refine oV (v_or (r := BitP.acc B at_ (m + 1)) rfl rfl (BitP.or_low hac0.1 (by omega) hb)) ?_
   refine rO TTZiK 6 rfl ?_
   refine oV (v_shl (r := HuffP.base ls (m + 1)) rfl rfl (by decide) (shl_base hW (by omega))) ?_
   refine rOs TTZiK 13 rfl (by omega) ?_
   refine oV (v_indexA (m + 1) rfl V.ar94 rfl rfl (by omega)) ?_
   refine oV (a_load ((m : Int) + 1) V.s3 rfl mm1 (by (simp only [List.length_cons, List.length_nil]; omega)) (by omega) (by omega)) ?_
   refine rO TTZiK 3 rfl ?_
   refine w_condD rfl (fun h33 => ?_) (fun h33 => ?_)
   ·refine rC TTZiK 1 rfl ?_
    have hlt : BitP.acc B at_ (m + 1) - HuffP.base ls (m + 1) < HuffP.cnt ls (m + 1) := by rw [← hcn]; exact h33
    have hat := HuffP.hit_at (by omega) hnn hlt
    have hol : (HuffP.ord ls).length ≤ 320 := by rw [HuffP.ord_len]; exact HuffP.off_16 hV (m := 15) (by omega)
    refine rC TTZiK 4 rfl ?_
    refine oV (a_loadP (n := 16) 0 V.s77 rfl mm1 (by omega) rfl rfl) ?_
    refine rOs TTZiK 5 rfl (by omega) ?_
    refine oV (xI V.sl77 (own mm3)) ?_
    refine oV (xL V.s3 (own mm3)) ?_
    refine rO TTZiK 10 rfl ?_
    rw [← hme]
    exact rp_ret (G := [HC b ls, LW b2 B (at_ + (m + 1)) out free]) (res1 rfl) ⟨m + 1, _, ht.hit (by omega) hx hlt, by rw [← gE (c := I3) (e := (HuffP.off ls (m + 1) : Int) + BitP.acc B at_ (m + 1) - HuffP.base ls (m + 1)) _ (by omega)], rfl⟩ ((fold' (.cons rr1 (.cons rr1 (.cons rr1 .nil))) dd0 (fun w0 h hh => hc_close rfl hh)).trans (sub (rz2 .nil) dd0))
   ·refine rC TTZiK 9 rfl ?_
    refine oV (v_indexA (m + 1) rfl V.ar94 rfl rfl (by omega)) ?_
    refine oV (a_load ((m : Int) + 1) V.s3 rfl mm1 (by (simp only [List.length_cons, List.length_nil]; omega)) (by omega) (by omega)) ?_
    refine rOs TTZiK 10 rfl (by omega) ?_
    refine oV (v_indexA (m + 1) rfl V.ar94 rfl rfl (by omega)) ?_
    refine oV (a_load ((m : Int) + 1) V.s3 rfl mm1 (by (simp only [List.length_cons, List.length_nil]; omega)) (by omega) (by omega)) ?_
    refine rOs TTZiK 10 rfl (by omega) ?_
    rw [hcn, ← HuffP.off_cnt ls (m + 1), show (m : Int) + 1 = ((m + 1 : Nat) : Int) from by omega]
    refine j1 (m + 1) ?_ (lc1 (lc5 ln)) (sub (.cons rr1 (.cons rr1 (.cons rr1 (rz1 .nil)))) dd0)
    exact ⟨ht.miss (by omega) hx (by rw [← hcn]; assumption), by omega⟩
  ·refine rC TTZiK 3 rfl ?_
   refine oV (v_shl (r := 2 * BitP.acc B at_ m) rfl rfl (by decide) (BitP.shl1 hac0.1 (by omega))) ?_
   refine oV (v_move rfl) ?_
   refine o_callE (c_takeE b2 B (at_ + m) out free 1 hl hB (by omega) ht.room (by omega)) V.b56 rfl (.cons rr3 .nil) ?_
   rintro _ _ ⟨rfl, rfl⟩
   refine (thn_p (blk_p (thn_p (thn_p (blk_p (thn_p ?_))))))
   rw [← hme]
   exact rp_pan (G := [HC b ls, LW b2 B (at_ + m) out free]) (.inl ⟨m, ht.short (by omega) (by omega), rfl, rfl⟩) ((fold' (.cons rr1 (.cons rr1 (.cons rr1 .nil))) dd0 (fun w0 h hh => hc_close rfl hh)).trans (sub (rz2 .nil) dd0))
 ·refine rC TTZiK 6 rfl ?_
  refine oV (v_build V.pl92 V.z92 rfl (cs := []) rfl) ?_
  refine oV (v_iface V.c92 rfl) ?_
  refine o_panic rfl ?_
  skip
  rw [← hme]
  exact rp_pan (G := [HC b ls, LW b2 B (at_ + m) out free]) (.inr ⟨m, ht.none (by omega), rfl, rfl⟩) ((fold' (rz3 .nil) dd0 (fun w0 h hh => hc_close rfl hh)).trans (sub (rz2 .nil) dd0))
end Go.Proofs.YtmbljkghkcgejaaGreat
namespace Go.Proofs.YtmbljkghkcgejaaGreat
open Go.Sl 
theorem h_new_yes (p : Option Addr) (cap : Nat) (ls : List Int) (R : HProp) (hR : ∀ w0 h, R w0 h → RdR I3 p ls.length ls w0 h) (hE : HuffP.newE ls = 0) : Ctr Tryz.prog 80 [.slice p ls.length cap] [R] (Ret fun v G => ∃ b, v = .tuple #[.pointer (some ⟨b, 0, none⟩), .int .i64 0] ∧ G = [HC b ls, R]) := by
  refine (h_new p cap ls R hR).mono ?_
  rintro e G ⟨v, rfl, h⟩
  rcases h with ⟨_, b, h1, h2⟩ | ⟨h, _⟩
  · exact ⟨v, rfl, b, h1, h2⟩
  · exact absurd hE h
theorem h_new_no (p : Option Addr) (cap : Nat) (ls : List Int) (R : HProp) (hR : ∀ w0 h, R w0 h → RdR I3 p ls.length ls w0 h) (hE : ¬ HuffP.newE ls = 0) : Ctr Tryz.prog 80 [.slice p ls.length cap] [R] (Ret fun v G => v = .tuple #[.pointer none, .int .i64 (HuffP.newE ls)] ∧ G = [R]) := by
  refine (h_new p cap ls R hR).mono ?_
  rintro e G ⟨v, rfl, h⟩
  rcases h with ⟨h, _⟩ | ⟨_, h1, h2⟩
  · exact absurd h hE
  · exact ⟨v, rfl, h1, h2⟩
end Go.Proofs.YtmbljkghkcgejaaGreat

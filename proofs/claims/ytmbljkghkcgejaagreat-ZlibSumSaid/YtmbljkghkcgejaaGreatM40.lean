/- Walks of functions that the law reaches, and what they lean on; no conditions. -/
import Derived.Test.YtmbljkghkcgejaaGreatM30
import Derived.Test.YtmbljkghkcgejaaGreatSl22
import Derived.KernelRfl
import Derived.Test.YtmbljkghkcgejaaGreatM39
import Derived.Test.YtmbljkghkcgejaaGreatM35
import Derived.Test.YtmbljkghkcgejaaGreatM32
set_option linter.unusedVariables false
set_option linter.unusedSimpArgs false
set_option maxRecDepth 100000
namespace Go.Proofs.YtmbljkghkcgejaaGreat
open Go.Sl 
theorem TTZiL : okT Tryz.prog ⟨[], [(75, 3, 3)]⟩ = true := by kernel_rfl
theorem c_must (e : Int) : Ctr Tryz.prog 62 [.bool true, .int .i64 e] [] (Ret fun v G => v = .tuple #[] ∧ G = []) := by
 refine spec_of [(0, _), (1, _)] Tryz.func62 rfl Tryz.ntmps62 rfl rfl ?_
 intro w0 F
 refine rT TTZiL 8 rfl ?_
 exact end_ok res0 ⟨rfl, rfl⟩ (sub .nil dd0)
theorem c_mustE (e : Int) : Ctr Tryz.prog 62 [.bool false, .int .i64 e] [] (Pan fun ch G => ch = pan1 24 (.int .i64 e) ∧ G = []) := by
 refine spec_of [(0, _), (1, _)] Tryz.func62 rfl Tryz.ntmps62 rfl rfl ?_
 intro w0 F
 refine rT TTZiL 9 rfl ?_
 refine oV (v_iface V.c24 rfl) ?_
 refine o_panic rfl ?_
 skip
 exact pan_ok (G := []) ⟨rfl, rfl⟩ (sub .nil dd0)
theorem c_put1 (b bl : Nat) (sz mo : Int) (li di : Value) (s : InfP.St) (yb : Int) (hy : 0 ≤ yb ∧ yb < 256) (hm : mo < 1000000000) : Ctr Tryz.prog 52 [.pointer (some ⟨b, 0, none⟩), .int .u8 yb] [MS b bl sz mo li di s] (PostE (InfP.put_ mo s yb) (fun s2 v G => v = .tuple #[] ∧ G = [MS b bl sz mo li di s2]) [MX b bl sz mo]) := by
 refine spec_of [(0, _), (1, _)] Tryz.func52 rfl Tryz.ntmps52 rfl rfl ?_
 intro w0 F
 refine w_opn (fun h hh => hh) ?_
 rintro ⟨po, co⟩ _
 dsimp only
 rcases (Classical.em ((s.out.length : Int) < mo)) with hx | hx
 ·refine rT TTZiL 1 rfl ?_
  refine wN [pz 0 [] [0], pz 1 [0] [], pz 3 [1] [], pz 7 [2] [], pz 15 [3] [], pz 0 [] [0], pz 32 [5] [], pz 96 [6] [], pz 224 [7] [], pz 511 [4, 8] [], pz 1023 [9] []] [⟨fun y => Cel b 75 [.pointer (some ⟨bl, 0, none⟩), .int .i64 sz, .int .i64 mo, .slice po s.out.length co, .bool s.ended, .int .i64 0, .int .i64 s.kind, .int .i64 (s.left : Int), .bool s.last, li, di, .int .i64 (s.copies : Int), .int .i64 (s.far : Int)], none, none, [3, 8]⟩, ⟨fun y => Row U5 po s.out.length co s.out, none, none, []⟩] F V.mixed ?_
  refine nM ?_
  refine nN ?_
  refine nG V.f75_3 ?_
  refine nR (fun y FF hA => v_load V.s22 rfl mm0 rfl) ?_
  refine nV (fun y hA L => v_len (ty' := 0) Tryz.underlying22 rfl) ?_
  refine nM ?_
  refine nN ?_
  refine nG V.f75_2 ?_
  refine nR (fun y FF hA => v_load V.s3 rfl mm0 rfl) ?_
  refine nV (fun y hA L => v_T (v_lss rfl rfl) hx) ?_
  refine nE (fun y FF hA => st_callN (Post := []) (c_must 6) V.b62 rfl .nil (fun v G h => by rcases h with ⟨rfl, rfl⟩; exact ⟨rfl, .refl _⟩)) ?_
  refine net_nil ?_
  intro y hA
  clear hA
  refine thn_n ?_
  refine w_keep _ (.cons (d := 0) rfl (.cons (d := 1) rfl (.nil _))) ?_
  refine w_sub (M := Cel b 75 [.pointer (some ⟨bl, 0, none⟩), .int .i64 sz, .int .i64 mo, .slice po s.out.length co, .bool s.ended, .int .i64 0, .int .i64 s.kind, .int .i64 (s.left : Int), .bool s.last, li, di, .int .i64 (s.copies : Int), .int .i64 (s.far : Int)] :: Row U5 po s.out.length co s.out :: F) (fun _ _ h => h) ?_
  refine rC TTZiL 5 rfl ?_
  refine oV (v_load V.s22 rfl mm0 rfl) ?_
  refine oV (v_move rfl) ?_
  refine r_build (U5) [yb] V.sl22 V.z5 rfl rfl rfl rfl rfl rfl ?_
  intro b21
  refine r_append (c := (U5)) V.sl22 V.z5 rfl rfl rfl rfl rr2 (own mm0) (by omega) rfl ?_
  intro p22 c22
  refine rO TTZiL 2 rfl ?_
  refine o_eff (v_store V.s22 rfl rfl rfl (by exact pp2) (by exact Nat.le_of_ble_eq_true rfl) rfl) ?_
  refine o_nil ?_
  exact pe_end (x := { s with out := s.out ++ [yb] }) (by unfold InfP.put_; rw [if_pos hx]) res0 ⟨rfl, rfl⟩ ((fold' (.cons rr2 (rz1 .nil)) dd1 (fun w0 h hh => ms_close (s := { s with out := s.out ++ [yb] }) (by simp) hh)))
 ·refine rT TTZiL 1 rfl ?_
  refine wN [pz 0 [] [0], pz 1 [0] [], pz 3 [1] [], pz 7 [2] [], pz 15 [3] [], pz 0 [] [0], pz 32 [5] [], pz 96 [6] [], pz 224 [7] [], pz 511 [4, 8] [], pz 1023 [9] []] [⟨fun y => Cel b 75 [.pointer (some ⟨bl, 0, none⟩), .int .i64 sz, .int .i64 mo, .slice po s.out.length co, .bool s.ended, .int .i64 0, .int .i64 s.kind, .int .i64 (s.left : Int), .bool s.last, li, di, .int .i64 (s.copies : Int), .int .i64 (s.far : Int)], none, none, [3, 8, 10]⟩, ⟨fun y => Row U5 po s.out.length co s.out, none, none, []⟩] F V.mixed ?_
  refine nM ?_
  refine nN ?_
  refine nG V.f75_3 ?_
  refine nR (fun y FF hA => v_load V.s22 rfl mm0 rfl) ?_
  refine nV (fun y hA L => v_len (ty' := 0) Tryz.underlying22 rfl) ?_
  refine nM ?_
  refine nN ?_
  refine nG V.f75_2 ?_
  refine nR (fun y FF hA => v_load V.s3 rfl mm0 rfl) ?_
  refine nV (fun y hA L => v_F (v_lss rfl rfl) hx) ?_
  refine net_pan (undef) _ _ (fun y => rfl) rfl (fun y => rfl) (fun y FF hA => st_callE (c_mustE 6) V.b62 rfl .nil (by rintro _ _ ⟨rfl, rfl⟩; exact x_pe (by unfold InfP.put_; rw [if_neg hx]) (PE.no (by decide)) (fold' (rz1 .nil) (by exact dp0 (M := FF) (F := F)) (fun w0 h hh => mx_close hh)))) ?_
  refine net_nil ?_
  intro y hA
  exact (KnN.fact (hA 10 (by exact Nat.le_of_ble_eq_true rfl)) (q := fun _ => False) rfl).elim
end Go.Proofs.YtmbljkghkcgejaaGreat
namespace Go.Proofs.YtmbljkghkcgejaaGreat
open Go.Sl 
theorem TTZiM : okT Tryz.prog ⟨[], [(87, 2, 2), (89, 0, 0)]⟩ = true := by kernel_rfl
attribute [local irreducible] HuffP.newE HuffP.tk HuffP.ord HuffP.cntL HuffP.words HuffP.mostL InfP.fixK InfP.frs
theorem c_code (p : Option Addr) (n cap : Nat) (ls : List Int) (R : HProp) (hn : n = ls.length) (hR : ∀ w0 h, R w0 h → RdR I3 p ls.length ls w0 h) : Ctr Tryz.prog 83 [.slice p n cap] [R] (PostE (InfP.codeE ls) (fun _ v G => ∃ b, v = .pointer (some ⟨b, 0, none⟩) ∧ G = [HC b ls, R]) []) := by
 subst hn
 refine spec_of [(0, _)] Tryz.func83 rfl Tryz.ntmps83 rfl rfl ?_
 intro w0 F
 refine rT TTZiM 5 rfl ?_
 rcases (Classical.em (HuffP.newE ls = 0)) with hE | hE
 ·refine rC TTZiM 3 rfl ?_
  refine o_call (h_new_yes p cap ls R hR hE) V.b80  rfl (rz1 .nil) rfl ?_
  rintro _ _ ⟨bh, rfl, rfl⟩
  refine rO TTZiM 10 rfl ?_
  refine oV (v_T (v_eql rfl rfl) rfl) ?_
  refine o_call (c_must 4) V.b62  rfl .nil rfl ?_
  rintro _ _ ⟨rfl, rfl⟩
  refine rO TTZiM 9 rfl ?_
  exact pe_ret (x := ()) (by unfold InfP.codeE; rw [if_pos hE]) (res1 rfl) ⟨bh, rfl, rfl⟩ (sub (rz2 .nil) dd0)
 ·refine rC TTZiM 3 rfl ?_
  refine o_call (h_new_no p cap ls R hR hE) V.b80  rfl (rz1 .nil) rfl ?_
  rintro _ _ ⟨rfl, rfl⟩
  refine rO TTZiM 10 rfl ?_
  refine oV (v_F (v_eql rfl rfl) hE) ?_
  refine o_callE (c_mustE 4) V.b62 rfl .nil ?_
  rintro _ _ ⟨rfl, rfl⟩
  refine (thn_p ?_)
  exact pe_pan (e := 4) (by unfold InfP.codeE; rw [if_neg hE]) (PE.no (by decide)) (sub .nil dd1)
theorem c_row (x : Int) (n : Nat) (hn : n < 1000000) : Ctr Tryz.prog 82 [.int .i64 x, .int .i64 (n : Int)] [] (Ret fun v G => ∃ p c, v = .slice p n c ∧ G = [Row I3 p n c (List.replicate n x)]) := by
 refine spec_of [(0, _), (1, _)] Tryz.func82 rfl Tryz.ntmps82 rfl rfl ?_
 intro w0 F
 refine rT TTZiM 18 rfl ?_
 refine w_add0 (Row I3 none 0 0 (List.replicate 0 x)) (Row.nil _ _ _) ?_
 refine w_loop3 (fun (k : Nat) (po : Option Addr) (co : Nat) => [(0, .int .i64 x), (5, .slice po k co), (6, .int .i64 (n : Int)), (7, .int .i64 (k : Int))]) (fun (k : Nat) (po : Option Addr) (co : Nat) => Row I3 po k co (List.replicate k x) :: F) (fun (k : Nat) (po : Option Addr) (co : Nat) => k ≤ n) (fun (k : Nat) (po : Option Addr) (co : Nat) => n - k) (i3 (0) (none) (0) ?_ (lc4 ln) (sub (rz1 .nil) dd0)) ?_
 ·exact Nat.zero_le _
 intro k po co
 rintro hk
 refine rL TTZiM 6 rfl ?_
 refine w_condD rfl (fun h8 => ?_) (fun h8 => ?_)
 ·refine rC TTZiM 7 rfl ?_
  refine r_build (I3) [x] V.sl77 V.z3 rfl rfl rfl rfl rfl rfl ?_
  intro b11
  refine r_append (c := (I3)) V.sl77 V.z3 rfl rfl rfl rfl rr1 (own mm0) (by omega) rfl ?_
  intro p12 c12
  refine rOs TTZiM 8 rfl (by omega) ?_
  rw [← List.replicate_succ']
  refine j3 (k + 1) (_) (_) ?_ (lc4 ln) (sub (rz1 .nil) dd1)
  exact ⟨by omega, by omega⟩
 ·refine rC TTZiM 12 rfl ?_
  obtain rfl : k = n := by omega
  exact ret_ok (res1 rfl) ⟨po, co, rfl, rfl⟩ (sub (rz1 .nil) dd0)
theorem c_order  : Ctr Tryz.prog 84 [] [] (Ret fun v G => ∃ p, v = .slice p 19 19 ∧ G = [Row I3 p 19 19 InfP.ordr]) := by
 refine spec_of [] Tryz.func84 rfl Tryz.ntmps84 rfl rfl ?_
 intro w0 F
 refine rT TTZiM 7 rfl ?_
 refine r_build (I3) [16, 17, 18, 0, 8, 7, 9, 6, 10, 5, 11, 4, 12, 3, 13, 2, 14, 1, 15] V.sl77 V.z3 rfl rfl rfl rfl rfl rfl ?_
 intro b1
 refine rO TTZiM 4 rfl ?_
 exact ret_ok (res1 rfl) ⟨_, rfl, rfl⟩ (sub (rz1 .nil) dd0)
theorem c_align (b : Nat) (B : List Int) (at_ : Nat) (out : List Int) (free : Int) (hl : B.length < 500000000) (ha : at_ ≤ 8 * B.length) : Ctr Tryz.prog 63 [.pointer (some ⟨b, 0, none⟩)] [LW b B at_ out free] (Ret fun v G => v = .tuple #[] ∧ G = [LW b B (InfP.alg at_) out free]) := by
 refine spec_of [(0, _)] Tryz.func63 rfl Tryz.ntmps63 rfl rfl ?_
 intro w0 F
 refine w_opn (fun h hh => hh) ?_
 rintro ⟨p1, c1, p2, c2⟩ _
 dsimp only
 refine rT TTZiM 6 rfl ?_
 refine oV (v_load V.s3 rfl mm0 rfl) ?_
 refine rOs TTZiM 2 rfl (by omega) ?_
 refine oV (v_quo rfl rfl (by omega) (quoI (by omega) (by omega) (by omega))) ?_
 refine rOs TTZiM 4 rfl (by omega) ?_
 refine o_eff (v_store V.s3 rfl rfl rfl (by exact pp0) (by exact Nat.le_of_ble_eq_true rfl) rfl) ?_
 refine o_nil ?_
 rw [show ((at_ : Int) + 8 - 1) / 8 * 8 = ((InfP.alg at_ : Nat) : Int) from by unfold InfP.alg; omega]
 exact end_ok res0 ⟨rfl, rfl⟩ (fold' (rz3 .nil) dd0 (fun w0 h hh => lw_close hh))
theorem c_sym (b : Nat) (ls : List Int) (b2 : Nat) (B : List Int) (at_ : Nat) (out : List Int) (free : Int) (hE : HuffP.newE ls = 0) (hl : B.length < 500000000) (hB : BitP.Byt B) (ha : at_ ≤ 8 * B.length) : Ctr Tryz.prog 66 [.pointer (some ⟨b, 0, none⟩), .pointer (some ⟨b2, 0, none⟩)] [HC b ls, LW b2 B at_ out free] (PostE (InfP.sym ls B at_) (fun x v G => v = .int .i64 x.1 ∧ G = [HC b ls, LW b2 B x.2 out free]) []) := by
 intro w0 F w hi
 refine (h_take b ls b2 B at_ out free hE hl hB ha w0 F w hi).mono ?_
 rintro e w' ⟨G, h1, (⟨v, rfl, n', s', h, rfl, rfl⟩ | ⟨ch, rfl, (⟨n', h, rfl, rfl⟩ | ⟨n', h, rfl, rfl⟩)⟩)⟩
 ·exact ⟨_, h1, .inl ⟨_, rfl, (s', at_ + n'), by unfold InfP.sym; rw [h], rfl, rfl⟩⟩
 ·exact ⟨[], h1.right, .inr ⟨_, rfl, 2, by unfold InfP.sym; rw [h], PE.end_, rfl⟩⟩
 ·exact ⟨[], h1.right, .inr ⟨_, rfl, 4, by unfold InfP.sym; rw [h], PE.none_, rfl⟩⟩
end Go.Proofs.YtmbljkghkcgejaaGreat
namespace Go.Proofs.YtmbljkghkcgejaaGreat
open Go.Sl 
theorem TTZiN : okT Tryz.prog ⟨[77], [(75, 0, 0), (75, 4, 4), (75, 6, 6), (75, 8, 8)]⟩ = true := by kernel_rfl
attribute [local irreducible] HuffP.newE HuffP.tk HuffP.ord HuffP.cntL HuffP.words HuffP.mostL InfP.fixK InfP.frs
theorem c_close (b bl : Nat) (sz mo : Int) (po : Option Addr) (no co : Nat) (li di : Value) (s : InfP.St) : Ctr Tryz.prog 55 [.pointer (some ⟨b, 0, none⟩)] [Cel b 75 [.pointer (some ⟨bl, 0, none⟩), .int .i64 sz, .int .i64 mo, .slice po no co, .bool s.ended, .int .i64 0, .int .i64 s.kind, .int .i64 (s.left : Int), .bool s.last, li, di, .int .i64 (s.copies : Int), .int .i64 (s.far : Int)]] (Ret fun v G => v = .tuple #[] ∧ G = [Cel b 75 [.pointer (some ⟨bl, 0, none⟩), .int .i64 sz, .int .i64 mo, .slice po no co, .bool s.last, .int .i64 0, .int .i64 (-1), .int .i64 (s.left : Int), .bool s.last, li, di, .int .i64 (s.copies : Int), .int .i64 (s.far : Int)]]) := by
 refine spec_of [(0, _)] Tryz.func55 rfl Tryz.ntmps55 rfl rfl ?_
 intro w0 F
 refine rT TTZiN 6 rfl ?_
 refine oV (v_load V.s4 rfl mm0 rfl) ?_
 refine rO TTZiN 2 rfl ?_
 refine o_eff (v_store V.s3 rfl rfl rfl (by exact pp0) (by exact Nat.le_of_ble_eq_true rfl) rfl) ?_
 refine rO TTZiN 2 rfl ?_
 refine o_eff (v_store V.s4 rfl rfl rfl (by exact pp0) (by exact Nat.le_of_ble_eq_true rfl) rfl) ?_
 refine o_nil ?_
 exact end_ok res0 ⟨rfl, rfl⟩ (sub (rz1 .nil) dd0)
set_option maxHeartbeats 1000000 in
theorem c_rep (b bl : Nat) (sz mo : Int) (po : Option Addr) (no co : Nat) (li di : Value) (s : InfP.St) (B : List Int) (a : Nat) (sy : Int) (pl : Option Addr) (cl : Nat) (l : List Int) (hs : 0 ≤ sy ∧ sy ≤ 18) (hl : B.length < 500000000) (hB : BitP.Byt B) (ha : a ≤ 8 * B.length) (hll : l.length < 1000000) : Ctr Tryz.prog 85 [.pointer (some ⟨b, 0, none⟩), .int .i64 sy, .slice pl l.length cl] [Cel b 75 [.pointer (some ⟨bl, 0, none⟩), .int .i64 sz, .int .i64 mo, .slice po no co, .bool s.ended, .int .i64 0, .int .i64 s.kind, .int .i64 (s.left : Int), .bool s.last, li, di, .int .i64 (s.copies : Int), .int .i64 (s.far : Int)], LW bl B a [] 0, Row I3 pl l.length cl l] (PostE (InfP.rep B sy l a) (fun x v G => v = .tuple #[.int .i64 x.1, .int .i64 x.2.1] ∧ G = [Cel b 75 [.pointer (some ⟨bl, 0, none⟩), .int .i64 sz, .int .i64 mo, .slice po no co, .bool s.ended, .int .i64 0, .int .i64 s.kind, .int .i64 (s.left : Int), .bool s.last, li, di, .int .i64 (s.copies : Int), .int .i64 (s.far : Int)], LW bl B x.2.2 [] 0, Row I3 pl l.length cl l]) [MX b bl sz mo]) := by
 refine spec_of [(0, _), (1, _), (2, _)] Tryz.func85 rfl Tryz.ntmps85 rfl rfl ?_
 intro w0 F
 refine rT TTZiN 19 rfl ?_
 refine w_condD rfl (fun h10 => ?_) (fun h10 => ?_)
 ·rcases (Nat.lt_or_ge (8 * B.length) (a + 2)) with hx | hx
  ·refine rC TTZiN 1 rfl ?_
   have hy : sy = 16 := h10
   subst hy
   have hnb := BitP.numL_bound B a 2
   refine rC TTZiN 4 rfl ?_
   refine oV (v_load V.s71 rfl mm0 rfl) ?_
   refine o_callE (c_takeE bl B a [] 0 2 hl hB (by omega) (by omega) (by omega)) V.b56 rfl (.cons rr1 .nil) ?_
   rintro _ _ ⟨rfl, rfl⟩
   refine (thn_p (blk_p (thn_p ?_)))
   exact pe_pan (e := 2) (InfP.rep_short (by decide) (show 8 * B.length < a + 2 from hx)) PE.end_ (fold' (.cons rr1 .nil) dd2 (fun w0 h hh => mx_close hh))
  ·refine rC TTZiN 1 rfl ?_
   have hy : sy = 16 := h10
   subst hy
   have hnb := BitP.numL_bound B a 2
   refine rC TTZiN 4 rfl ?_
   refine oV (v_load V.s71 rfl mm0 rfl) ?_
   refine o_call (c_take bl B a [] 0 2 hl hB (by omega) (by omega)) V.b56  rfl (.cons rr1 .nil) rfl ?_
   rintro _ _ ⟨rfl, rfl⟩
   refine rOs TTZiN 4 rfl (by omega) ?_
   rcases (Nat.eq_zero_or_pos l.length) with hl0 | hl0
   ·refine rC TTZiN 4 rfl ?_
    refine oV (v_F (v_gtr rfl rfl) (by omega)) ?_
    refine o_callE (c_mustE 4) V.b62 rfl .nil ?_
    rintro _ _ ⟨rfl, rfl⟩
    refine (thn_p (blk_p (thn_p ?_)))
    exact pe_pan (e := 4) (InfP.rep_form rfl (List.length_eq_zero_iff.1 hl0) (show ¬ 8 * B.length < a + 2 from by omega)) (PE.no (by decide)) (fold' (.cons rr1 .nil) dd2 (fun w0 h hh => mx_close hh))
   ·refine rC TTZiN 4 rfl ?_
    refine oV (v_T (v_gtr rfl rfl) (by omega)) ?_
    refine o_call (c_must 4) V.b62  rfl .nil rfl ?_
    rintro _ _ ⟨rfl, rfl⟩
    refine rO TTZiN 3 rfl ?_
    have hgl : I3.g l ((l.length : Int) - 1) = l.getD (l.length - 1) 0 := gE _ (by omega)
    refine rCs TTZiN 5 rfl (by omega) ?_
    refine oV (xI V.sl77 (own mm2)) ?_
    refine oV (xL V.s3 (own mm2)) ?_
    refine rO TTZiN 8 rfl ?_
    rw [hgl]
    exact pe_ret (x := (l.getD (l.length - 1) 0, 3 + BitP.numL B a 2, a + 2)) (InfP.rep_ok (by decide) (show ¬ 8 * B.length < a + 2 from by omega) (fun h => by rw [h.2] at hl0; simp at hl0)) (res2 rfl rfl) ⟨rfl, rfl⟩ (sub (.cons rr1 (rz2 .nil)) dd0)
 ·refine rC TTZiN 6 rfl ?_
  refine w_condD rfl (fun h29 => ?_) (fun h29 => ?_)
  ·rcases (Nat.lt_or_ge (8 * B.length) (a + 3)) with hx | hx
   ·refine rC TTZiN 1 rfl ?_
    have hy : sy = 17 := h29
    subst hy
    have hnb := BitP.numL_bound B a 3
    refine rC TTZiN 4 rfl ?_
    refine oV (v_load V.s71 rfl mm0 rfl) ?_
    refine o_callE (c_takeE bl B a [] 0 3 hl hB (by omega) (by omega) (by omega)) V.b56 rfl (.cons rr1 .nil) ?_
    rintro _ _ ⟨rfl, rfl⟩
    refine (thn_p (blk_p (thn_p ?_)))
    exact pe_pan (e := 2) (InfP.rep_short (by decide) (show 8 * B.length < a + 3 from hx)) PE.end_ (fold' (.cons rr1 .nil) dd2 (fun w0 h hh => mx_close hh))
   ·refine rC TTZiN 1 rfl ?_
    have hy : sy = 17 := h29
    subst hy
    have hnb := BitP.numL_bound B a 3
    refine rC TTZiN 4 rfl ?_
    refine oV (v_load V.s71 rfl mm0 rfl) ?_
    refine o_call (c_take bl B a [] 0 3 hl hB (by omega) (by omega)) V.b56  rfl (.cons rr1 .nil) rfl ?_
    rintro _ _ ⟨rfl, rfl⟩
    refine rOs TTZiN 8 rfl (by omega) ?_
    exact pe_ret (x := (0, 3 + BitP.numL B a 3, a + 3)) (InfP.rep_ok (by decide) (show ¬ 8 * B.length < a + 3 from by omega) (fun h => absurd h.1 (by decide))) (res2 rfl rfl) ⟨rfl, rfl⟩ (sub (.cons rr1 (rz2 .nil)) dd0)
  ·refine rC TTZiN 6 rfl ?_
   refine w_condD rfl (fun h37 => ?_) (fun h37 => ?_)
   ·rcases (Nat.lt_or_ge (8 * B.length) (a + 7)) with hx | hx
    ·refine rC TTZiN 1 rfl ?_
     have hy : sy = 18 := h37
     subst hy
     have hnb := BitP.numL_bound B a 7
     refine rC TTZiN 4 rfl ?_
     refine oV (v_load V.s71 rfl mm0 rfl) ?_
     refine o_callE (c_takeE bl B a [] 0 7 hl hB (by omega) (by omega) (by omega)) V.b56 rfl (.cons rr1 .nil) ?_
     rintro _ _ ⟨rfl, rfl⟩
     refine (thn_p (blk_p (thn_p ?_)))
     exact pe_pan (e := 2) (InfP.rep_short (by decide) (show 8 * B.length < a + 7 from hx)) PE.end_ (fold' (.cons rr1 .nil) dd2 (fun w0 h hh => mx_close hh))
    ·refine rC TTZiN 1 rfl ?_
     have hy : sy = 18 := h37
     subst hy
     have hnb := BitP.numL_bound B a 7
     refine rC TTZiN 4 rfl ?_
     refine oV (v_load V.s71 rfl mm0 rfl) ?_
     refine o_call (c_take bl B a [] 0 7 hl hB (by omega) (by omega)) V.b56  rfl (.cons rr1 .nil) rfl ?_
     rintro _ _ ⟨rfl, rfl⟩
     refine rOs TTZiN 8 rfl (by omega) ?_
     exact pe_ret (x := (0, 11 + BitP.numL B a 7, a + 7)) (InfP.rep_ok (by decide) (show ¬ 8 * B.length < a + 7 from by omega) (fun h => absurd h.1 (by decide))) (res2 rfl rfl) ⟨rfl, rfl⟩ (sub (.cons rr1 (rz2 .nil)) dd0)
   ·refine rC TTZiN 11 rfl ?_
    exact pe_ret (x := (sy, 1, a)) (InfP.rep_lt (by omega)) (res2 rfl rfl) ⟨rfl, rfl⟩ (sub (rz3 .nil) dd0)
end Go.Proofs.YtmbljkghkcgejaaGreat
namespace Go.Sl
section
variable {C : Ctx} {E : Env} {L F : List HProp} {ops : Array Oper} {d : Option Nat} {ty : TypeId} {pos : String} {aft : Array Edge}
theorem st_callP {A : Nat → HProp} {f : FuncId} {args : List Operand} {tys : Array TypeId} {vs : List Value} {Pre Post : List HProp} (hS : Ctr C.P f vs Pre (Ret fun v G => ∃ b, v = .pointer (some ⟨b, 0, none⟩) ∧ G = A b :: Post)) (hb : bodyB C.P f = true) (hE : evs E args = some vs) (hL : Rems L Pre F) :
  Step C ops ⟨d, .call ⟨.value (.func f), args.toArray, tys⟩, ty, pos, aft, none⟩ E L (fun v L' => v = .pointer (some ⟨ptB v, 0, none⟩) ∧ True ∧ L'.Perm ((A (ptB v) :: Post) ++ F)) :=
 st_call hS hb hE hL fun v G ⟨b, e1, e2⟩ => by subst e1; subst e2; exact ⟨rfl, trivial, .refl _⟩
theorem v_buildA {t n e sz : Nat} {parts : List (Nat × Operand)} {pv : List (Nat × Value)} {zs cs : List Value} (har : arrayB C.P t = some (n, e, sz)) (hz : zeroB C.P t = some zs) (hp : pevs E parts = some pv) (hf : Instr.fill (fun i => some (i * sz, sz)) zs.toArray pv = some cs.toArray) :
  OpV C (.build t parts.toArray) ty E L (.agg cs.toArray) L :=
 pureV fun d pos aft g a w ha => by
  obtain ⟨i', z, hz1, hz2, hz3, hz4⟩ := zero_spec hz
  have hmap : parts.toArray.map (fun x => match x with | (i, x) => (i, a.eval x)) = pv.toArray := by
   rw [← pevs_spec hp a ha]; simp
  unfold arrayB at har
  split at har
  ·rename_i n' e' hfs
   split at har
   ·rename_i i hi
    cases har
    simp only [execOp, hmap, Instr.build, Sem.run_bind, zeroValue, typeInfo, run_program, Result.andThen_ok, hz1, hz2, Sem.run_pure, run_underlying hfs, run_sizeOf hi, hz3]
    simp [hf]
   ·cases har
  ·cases har
end
theorem row_take {p : Option Addr} {n c m : Nat} {l : List Int} {w0 : World} {h : Hp} (hn : n = l.length) (hm : m ≤ n) (hh : Row I3 p n c l w0 h) : RdR I3 p (l.take m).length (l.take m) w0 h := by
 have := hh.rd.sub 0 m m (Nat.zero_le _) hm (Nat.le_refl _)
 rw [subP_zero, Nat.sub_zero, List.drop_zero] at this
 rw [List.length_take, ← hn, Nat.min_eq_left hm]
 exact this
theorem row_drop {p : Option Addr} {n c m : Nat} {l : List Int} {w0 : World} {h : Hp} (hn : n = l.length) (hm : m ≤ n) (hc : n ≤ c) (hh : Row I3 p n c l w0 h) : RdR I3 (subP p m c 1) (l.drop m).length (l.drop m) w0 h := by
 have := hh.rd.sub m n c hm (Nat.le_refl _) hc
 rw [List.take_of_length_le (by rw [List.length_drop]; omega)] at this
 rw [List.length_drop, ← hn]
 exact this
theorem row_rd {p : Option Addr} {n c : Nat} {l : List Int} {w0 : World} {h : Hp} (hn : n = l.length) (hh : Row I3 p n c l w0 h) : RdR I3 p l.length l w0 h := by subst hn; exact hh.rd
end Go.Sl
namespace Go.Proofs.YtmbljkghkcgejaaGreat
open Go.Sl 
theorem TTZiO : okT Tryz.prog ⟨[111], [(75, 9, 9), (75, 10, 10)]⟩ = true := by kernel_rfl
attribute [local irreducible] HuffP.newE HuffP.tk HuffP.ord HuffP.cntL HuffP.words HuffP.mostL InfP.frs InfP.toldC InfP.toldN InfP.toldA InfP.hL InfP.hD InfP.hC InfP.lnGo InfP.told InfP.fixL InfP.codeE InfP.rep
abbrev P2 : Ec (Int × Int) := ⟨110, 2, fun x => [.int .i64 x.1, .int .i64 x.2], (0, 0), fun _ => rfl, fun _ => rfl⟩
theorem c_codeY (p : Option Addr) (n cap : Nat) (ls : List Int) (R : HProp) (hn : n = ls.length) (hR : ∀ w0 h, R w0 h → RdR I3 p ls.length ls w0 h) (hE : HuffP.newE ls = 0) : Ctr Tryz.prog 83 [.slice p n cap] [R] (Ret fun v G => ∃ b, v = .pointer (some ⟨b, 0, none⟩) ∧ G = [HC b ls, R]) :=
 (c_code p n cap ls R hn hR).ok (x := ()) (by unfold InfP.codeE; rw [if_pos hE])
theorem c_codeX (p : Option Addr) (n cap : Nat) (ls : List Int) (R : HProp) (hn : n = ls.length) (hR : ∀ w0 h, R w0 h → RdR I3 p ls.length ls w0 h) (hE : HuffP.newE ls ≠ 0) : Ctr Tryz.prog 83 [.slice p n cap] [R] (Pan fun ch G => PE 4 ch ∧ G = []) :=
 (c_code p n cap ls R hn hR).err (by unfold InfP.codeE; rw [if_neg hE])
theorem c_rowI (x n : Int) (hn : 0 ≤ n ∧ n < 1000000) : Ctr Tryz.prog 82 [.int .i64 x, .int .i64 n] [] (Ret fun v G => ∃ p c, v = .slice p n.toNat c ∧ G = [Row I3 p n.toNat c (List.replicate n.toNat x)]) := by
 have h := c_row x n.toNat (by omega)
 rw [Int.toNat_of_nonneg hn.1] at h
 exact h
theorem c_plain (b bl : Nat) (sz mo : Int) (po : Option Addr) (no co : Nat) (li di : Value) (s : InfP.St) : Ctr Tryz.prog 64 [.pointer (some ⟨b, 0, none⟩)] [Cel b 75 [.pointer (some ⟨bl, 0, none⟩), .int .i64 sz, .int .i64 mo, .slice po no co, .bool s.ended, .int .i64 0, .int .i64 s.kind, .int .i64 (s.left : Int), .bool s.last, li, di, .int .i64 (s.copies : Int), .int .i64 (s.far : Int)]] (Ret fun v G => ∃ l d, v = .tuple #[] ∧ G = [Cel b 75 [.pointer (some ⟨bl, 0, none⟩), .int .i64 sz, .int .i64 mo, .slice po no co, .bool s.ended, .int .i64 0, .int .i64 s.kind, .int .i64 (s.left : Int), .bool s.last, (.pointer (some ⟨l, 0, none⟩)), (.pointer (some ⟨d, 0, none⟩)), .int .i64 (s.copies : Int), .int .i64 (s.far : Int)], HC l InfP.fixL, HC d InfP.fixD]) := by
 refine spec_of [(0, _)] Tryz.func64 rfl Tryz.ntmps64 rfl rfl ?_
 intro w0 F
 refine rT TTZiO 8 rfl ?_
 iterate 4 refine oV (v_buildA V.ar110 V.z110 rfl (cs := [_, _]) rfl) ?_
 refine r_build (P2) InfP.fixT V.sl111 V.z110 rfl rfl rfl rfl rfl rfl ?_
 intro b9
 refine rO TTZiO 5 rfl ?_
 refine w_add0 (Row I3 none 0 0 (InfP.fixK 0)) (Row.nil _ _ _) ?_
 refine w_loop3 (fun (k : Nat) (pr : Option Addr) (cr : Nat) => [(0, .pointer (some ⟨b, 0, none⟩)), (2, .slice pr (InfP.fixK k).length cr), (9, .slice (some ⟨b9, 0, none⟩) 4 4), (10, .int .i64 4), (11, .int .i64 (k : Int))]) (fun (k : Nat) (pr : Option Addr) (cr : Nat) => Row I3 pr (InfP.fixK k).length cr (InfP.fixK k) :: Row P2 (some ⟨b9, 0, none⟩) 4 4 InfP.fixT :: Cel b 75 [.pointer (some ⟨bl, 0, none⟩), .int .i64 sz, .int .i64 mo, .slice po no co, .bool s.ended, .int .i64 0, .int .i64 s.kind, .int .i64 (s.left : Int), .bool s.last, li, di, .int .i64 (s.copies : Int), .int .i64 (s.far : Int)] :: F) (fun (k : Nat) (pr : Option Addr) (cr : Nat) => k ≤ 4) (fun (k : Nat) (pr : Option Addr) (cr : Nat) => 4 - k) (i3 (0) (none) (0) ?_ (lc5 ln) (sub (rz3 .nil) dd0)) ?_
 ·exact Nat.zero_le _
 intro k pr cr
 rintro hk
 refine rL TTZiO 6 rfl ?_
 refine w_condD rfl (fun h12 => ?_) (fun h12 => ?_)
 ·refine rC TTZiO 6 rfl ?_
  refine oV (xI V.sl111 (own mm1)) ?_
  refine oV (r_loadA (c := (P2)) V.a110 rfl (own mm1) (by omega) (by omega) rfl) ?_
  refine o_alloc V.z110 rfl ?_
  intro b4
  refine o_eff (v_storeAgg V.a110 rfl rfl (us := [_, _]) rfl rfl (by exact pp0) (by exact Nat.le_of_ble_eq_true rfl) rfl) ?_
  refine rO TTZiO 2 rfl ?_
  have hf1 : 0 ≤ (P2.g InfP.fixT (k : Int)).2 ∧ (P2.g InfP.fixT (k : Int)).2 < 200 := InfP.fixT_g (by omega)
  have hf2 := InfP.fixK_le k (by omega)
  refine rC TTZiO 2 rfl ?_
  refine oV (v_indexA 0 rfl V.ar110 rfl rfl (by omega)) ?_
  refine oV (v_load V.s3 rfl mm0 rfl) ?_
  refine oV (v_indexA 1 rfl V.ar110 rfl rfl (by omega)) ?_
  refine oV (v_load V.s3 rfl mm0 rfl) ?_
  refine o_call (c_rowI (P2.g InfP.fixT (k : Int)).1 (P2.g InfP.fixT (k : Int)).2 (by omega)) V.b82  rfl .nil rfl ?_
  rintro _ _ ⟨p20, c20, rfl, rfl⟩
  refine r_append (c := (I3)) V.sl77 V.z3 rfl rfl rfl rfl rr2 (own mm0) (by omega) rfl ?_
  intro p21 c21
  refine rOs TTZiO 8 rfl (by omega) ?_
  have hst : InfP.fixK (k + 1) = InfP.fixK k ++ List.replicate (P2.g InfP.fixT (k : Int)).2.toNat (P2.g InfP.fixT (k : Int)).1 := InfP.fixK_succ k
  have hsl : (InfP.fixK (k + 1)).length = (InfP.fixK k).length + (P2.g InfP.fixT (k : Int)).2.toNat := by rw [hst, List.length_append, List.length_replicate]
  rw [← hst, ← hsl]
  refine j3 (k + 1) (_) (_) ?_ (lc5 ln) (sub (rz1 (.cons rr2 (.cons rr2 .nil))) dd2)
  exact ⟨by omega, by omega⟩
 ·refine rC TTZiO 5 rfl ?_
  have hk4 : k = 4 := by omega
  have hfl : HuffP.newE (InfP.fixK k) = 0 := by rw [hk4, InfP.fixK_4]; exact InfP.fixL_ok
  refine rC TTZiO 4 rfl ?_
  refine o_call (c_codeY pr (InfP.fixK k).length cr (InfP.fixK k) (Row I3 pr (InfP.fixK k).length cr (InfP.fixK k)) rfl (fun _ _ hh => row_rd rfl hh) hfl) V.b83  rfl (rz1 .nil) rfl ?_
  rintro _ _ ⟨l26, rfl, rfl⟩
  refine o_call (c_row 5 32 (by omega)) V.b82  rfl .nil rfl ?_
  rintro _ _ ⟨p27, c27, rfl, rfl⟩
  refine o_call (c_codeY p27 32 c27 (List.replicate 32 5) (Row I3 p27 32 c27 (List.replicate 32 5)) rfl (fun _ _ hh => row_rd rfl hh) InfP.fixD_ok) V.b83  rfl (rz1 .nil) rfl ?_
  rintro _ _ ⟨d28, rfl, rfl⟩
  refine rO TTZiO 2 rfl ?_
  refine o_eff (v_store V.s73 rfl rfl rfl (by exact pp5) (by exact Nat.le_of_ble_eq_true rfl) rfl) ?_
  refine rO TTZiO 2 rfl ?_
  refine o_eff (v_store V.s73 rfl rfl rfl (by exact pp5) (by exact Nat.le_of_ble_eq_true rfl) rfl) ?_
  refine o_nil ?_
  rw [hk4, InfP.fixK_4]
  exact end_ok res0 ⟨l26, d28, rfl, rfl⟩ (sub (.cons rr5 (.cons rr2 (rz1 .nil))) dd3)
end Go.Proofs.YtmbljkghkcgejaaGreat

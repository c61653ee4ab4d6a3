/- Walks of functions that the law reaches, and what they lean on; no conditions. -/
import Derived.Test.YtmbljkghkcgejaaGreatM30
import Derived.Test.YtmbljkghkcgejaaGreatSl22
import Derived.KernelRfl
import Derived.Test.YtmbljkghkcgejaaGreatM40
import Derived.Test.YtmbljkghkcgejaaGreatM32
set_option linter.unusedVariables false
set_option linter.unusedSimpArgs false
set_option maxRecDepth 100000
namespace Go.Proofs.YtmbljkghkcgejaaGreat
open Go.Sl 
theorem TTZiQ : okT Tryz.prog ⟨[77], [(75, 0, 0)]⟩ = true := by kernel_rfl
attribute [local irreducible] HuffP.newE HuffP.tk HuffP.ord HuffP.cntL HuffP.words HuffP.mostL InfP.frs InfP.toldC InfP.toldN InfP.toldA InfP.hL InfP.hD InfP.hC InfP.lnGo InfP.told InfP.fixL InfP.codeE InfP.rep
set_option maxHeartbeats 4000000 in
theorem c_told (b bl : Nat) (sz mo : Int) (po : Option Addr) (no co : Nat) (li di : Value) (s : InfP.St) (B : List Int) (a : Nat) (hl : B.length < 500000000) (hB : BitP.Byt B) (ha : a ≤ 8 * B.length) : Ctr Tryz.prog 65 [.pointer (some ⟨b, 0, none⟩)] [Cel b 75 [.pointer (some ⟨bl, 0, none⟩), .int .i64 sz, .int .i64 mo, .slice po no co, .bool s.ended, .int .i64 0, .int .i64 s.kind, .int .i64 (s.left : Int), .bool s.last, li, di, .int .i64 (s.copies : Int), .int .i64 (s.far : Int)], LW bl B a [] 0] (PostE (InfP.told B a) (fun x v G => ∃ l d, v = .tuple #[] ∧ G = [Cel b 75 [.pointer (some ⟨bl, 0, none⟩), .int .i64 sz, .int .i64 mo, .slice po no co, .bool s.ended, .int .i64 0, .int .i64 s.kind, .int .i64 (s.left : Int), .bool s.last, (.pointer (some ⟨l, 0, none⟩)), (.pointer (some ⟨d, 0, none⟩)), .int .i64 (s.copies : Int), .int .i64 (s.far : Int)], LW bl B x.1 [] 0, HC l x.2.1, HC d x.2.2]) [MX b bl sz mo]) := by
 refine spec_of [(0, _)] Tryz.func65 rfl Tryz.ntmps65 rfl rfl ?_
 intro w0 F
 have hn1 := BitP.numL_bound B a 5
 have hn2 := BitP.numL_bound B (a + 5) 5
 have hn3 := BitP.numL_bound B (a + 10) 4
 obtain ⟨he1, he2, he3, he4, he5, he6, he7, he8⟩ := InfP.hd_eqs B a
 have hNN : InfP.toldN B a = InfP.hL B a + InfP.hD B a := InfP.toldN_eq B a
 have hAA : InfP.toldA B a = a + 14 + 3 * InfP.hC B a := InfP.toldA_eq B a
 rcases (InfP.room3 B.length a) with hx | ⟨hx1, hx⟩ | ⟨hx1, hx⟩ | h14
 ·refine rT TTZiQ 1 rfl ?_
  refine wN [pz 0 [] [0], pz 1 [0] [], pz 3 [1] [], pz 7 [2] [], pz 15 [3] [], pz 31 [4] [], pz 0 [] [0], pz 64 [6] [], pz 192 [7] [], pz 448 [8] [], pz 991 [9] [], pz 2015 [10] [], pz 0 [] [0], pz 4096 [12] [], pz 12288 [13] [], pz 28672 [14] [], pz 63455 [15] [], pz 128991 [16] [], pz 129023 [5] [], pz 393215 [11] [], pz 1048575 [17] []] [⟨fun y => Cel b 75 [.pointer (some ⟨bl, 0, none⟩), .int .i64 sz, .int .i64 mo, .slice po no co, .bool s.ended, .int .i64 0, .int .i64 s.kind, .int .i64 (s.left : Int), .bool s.last, li, di, .int .i64 (s.copies : Int), .int .i64 (s.far : Int)], none, none, [3, 4, 9, 15]⟩, ⟨fun y => LW bl B a [] 0, none, none, [4]⟩] F V.mixed ?_
  refine nM ?_
  refine nN ?_
  refine nG V.f75_0 ?_
  refine nR (fun y FF hA => v_load V.s71 rfl mm0 rfl) ?_
  refine net_pan (undef) _ _ (fun y => rfl) rfl (fun y => rfl) (fun y FF hA => st_callE (c_takeE bl B a [] 0 5 hl hB (by omega) (by omega) (by omega)) V.b56 rfl (.cons rr1 .nil) (by rintro _ _ ⟨rfl, rfl⟩; exact x_pe (InfP.told_1 (by omega)) PE.end_ (fold' (.cons rr1 .nil) (by exact dp1 (M := FF) (F := F)) (fun w0 h hh => mx_close hh)))) ?_
  refine net_pan (.bool true) _ _ (fun y => rfl) rfl (fun y => rfl) (fun y FF hA => (KnN.fact (hA 4 (by decide)) (q := fun _ => False) rfl).elim) ?_
  refine nM ?_
  refine nN ?_
  refine nG V.f75_0 ?_
  refine nR (fun y FF hA => v_load V.s71 rfl mm0 rfl) ?_
  refine net_pan (.bool true) _ _ (fun y => rfl) rfl (fun y => rfl) (fun y FF hA => (KnN.fact (hA 4 (by decide)) (q := fun _ => False) rfl).elim) ?_
  refine net_pan (.bool true) _ _ (fun y => rfl) rfl (fun y => rfl) (fun y FF hA => (KnN.fact (hA 4 (by decide)) (q := fun _ => False) rfl).elim) ?_
  refine nM ?_
  refine nN ?_
  refine nG V.f75_0 ?_
  refine nR (fun y FF hA => v_load V.s71 rfl mm0 rfl) ?_
  refine net_pan (.bool true) _ _ (fun y => rfl) rfl (fun y => rfl) (fun y FF hA => (KnN.fact (hA 4 (by decide)) (q := fun _ => False) rfl).elim) ?_
  refine net_pan (.bool true) _ _ (fun y => rfl) rfl (fun y => rfl) (fun y FF hA => (KnN.fact (hA 4 (by decide)) (q := fun _ => False) rfl).elim) ?_
  refine net_pan (.bool true) _ _ (fun y => rfl) rfl (fun y => rfl) (fun y FF hA => (KnN.fact (hA 4 (by decide)) (q := fun _ => False) rfl).elim) ?_
  refine net_pan (.bool true) _ _ (fun y => rfl) rfl (fun y => rfl) (fun y FF hA => (KnN.fact (hA 4 (by decide)) (q := fun _ => False) rfl).elim) ?_
  refine net_pan (.bool true) _ _ (fun y => rfl) rfl (fun y => rfl) (fun y FF hA => (KnN.fact (hA 4 (by decide)) (q := fun _ => False) rfl).elim) ?_
  refine net_nil ?_
  intro y hA
  exact (KnN.fact (hA 4 (by exact Nat.le_of_ble_eq_true rfl)) (q := fun _ => False) rfl).elim
 ·refine rT TTZiQ 1 rfl ?_
  refine wN [pz 0 [] [0], pz 1 [0] [], pz 3 [1] [], pz 7 [2] [], pz 15 [3] [], pz 31 [4] [], pz 0 [] [0], pz 64 [6] [], pz 192 [7] [], pz 448 [8] [], pz 991 [9] [], pz 2015 [10] [], pz 0 [] [0], pz 4096 [12] [], pz 12288 [13] [], pz 28672 [14] [], pz 63455 [15] [], pz 128991 [16] [], pz 129023 [5] [], pz 393215 [11] [], pz 1048575 [17] []] [⟨fun y => Cel b 75 [.pointer (some ⟨bl, 0, none⟩), .int .i64 sz, .int .i64 mo, .slice po no co, .bool s.ended, .int .i64 0, .int .i64 s.kind, .int .i64 (s.left : Int), .bool s.last, li, di, .int .i64 (s.copies : Int), .int .i64 (s.far : Int)], none, none, [3, 9, 10, 15]⟩, ⟨fun y => LW bl B a [] 0, none, some 4, []⟩, ⟨fun y => LW bl B (a + 5) [] 0, some 4, none, [10]⟩] F V.mixed ?_
  refine nM ?_
  refine nN ?_
  refine nG V.f75_0 ?_
  refine nR (fun y FF hA => v_load V.s71 rfl mm0 rfl) ?_
  refine nE (fun y FF hA => st_callN (Post := [LW bl B (a + 5) [] 0]) (c_take bl B a [] 0 5 hl hB (by omega) (by omega)) V.b56 rfl (rz1 .nil) (fun v G h => by rcases h with ⟨rfl, rfl⟩; exact ⟨rfl, .refl _⟩)) ?_
  refine nV (fun y hA L => v_add rfl rfl wI) ?_
  refine nM ?_
  refine nN ?_
  refine nG V.f75_0 ?_
  refine nR (fun y FF hA => v_load V.s71 rfl mm0 rfl) ?_
  refine net_pan (undef) _ _ (fun y => rfl) rfl (fun y => rfl) (fun y FF hA => st_callE (c_takeE bl B (a + 5) [] 0 5 hl hB (by omega) (by omega) (by omega)) V.b56 rfl (.cons rr1 .nil) (by rintro _ _ ⟨rfl, rfl⟩; exact x_pe (InfP.told_1 (by omega)) PE.end_ (fold' (.cons rr1 .nil) (by exact dp1 (M := FF) (F := F)) (fun w0 h hh => mx_close hh)))) ?_
  refine net_pan (.bool true) _ _ (fun y => rfl) rfl (fun y => rfl) (fun y FF hA => (KnN.fact (hA 10 (by decide)) (q := fun _ => False) rfl).elim) ?_
  refine nM ?_
  refine nN ?_
  refine nG V.f75_0 ?_
  refine nR (fun y FF hA => v_load V.s71 rfl mm0 rfl) ?_
  refine net_pan (.bool true) _ _ (fun y => rfl) rfl (fun y => rfl) (fun y FF hA => (KnN.fact (hA 10 (by decide)) (q := fun _ => False) rfl).elim) ?_
  refine net_pan (.bool true) _ _ (fun y => rfl) rfl (fun y => rfl) (fun y FF hA => (KnN.fact (hA 10 (by decide)) (q := fun _ => False) rfl).elim) ?_
  refine net_pan (.bool true) _ _ (fun y => rfl) rfl (fun y => rfl) (fun y FF hA => (KnN.fact (hA 10 (by decide)) (q := fun _ => False) rfl).elim) ?_
  refine net_pan (.bool true) _ _ (fun y => rfl) rfl (fun y => rfl) (fun y FF hA => (KnN.fact (hA 10 (by decide)) (q := fun _ => False) rfl).elim) ?_
  refine net_pan (.bool true) _ _ (fun y => rfl) rfl (fun y => rfl) (fun y FF hA => (KnN.fact (hA 10 (by decide)) (q := fun _ => False) rfl).elim) ?_
  refine net_nil ?_
  intro y hA
  exact (KnN.fact (hA 10 (by exact Nat.le_of_ble_eq_true rfl)) (q := fun _ => False) rfl).elim
 ·refine rT TTZiQ 1 rfl ?_
  refine wN [pz 0 [] [0], pz 1 [0] [], pz 3 [1] [], pz 7 [2] [], pz 15 [3] [], pz 31 [4] [], pz 0 [] [0], pz 64 [6] [], pz 192 [7] [], pz 448 [8] [], pz 991 [9] [], pz 2015 [10] [], pz 0 [] [0], pz 4096 [12] [], pz 12288 [13] [], pz 28672 [14] [], pz 63455 [15] [], pz 128991 [16] [], pz 129023 [5] [], pz 393215 [11] [], pz 1048575 [17] []] [⟨fun y => Cel b 75 [.pointer (some ⟨bl, 0, none⟩), .int .i64 sz, .int .i64 mo, .slice po no co, .bool s.ended, .int .i64 0, .int .i64 s.kind, .int .i64 (s.left : Int), .bool s.last, li, di, .int .i64 (s.copies : Int), .int .i64 (s.far : Int)], none, none, [3, 9, 15, 16]⟩, ⟨fun y => LW bl B a [] 0, none, some 4, []⟩, ⟨fun y => LW bl B (a + 5) [] 0, some 4, some 10, []⟩, ⟨fun y => LW bl B (a + 10) [] 0, some 10, none, [16]⟩] F V.mixed ?_
  refine nM ?_
  refine nN ?_
  refine nG V.f75_0 ?_
  refine nR (fun y FF hA => v_load V.s71 rfl mm0 rfl) ?_
  refine nE (fun y FF hA => st_callN (Post := [LW bl B (a + 5) [] 0]) (c_take bl B a [] 0 5 hl hB (by omega) (by omega)) V.b56 rfl (rz1 .nil) (fun v G h => by rcases h with ⟨rfl, rfl⟩; exact ⟨rfl, .refl _⟩)) ?_
  refine nV (fun y hA L => v_add rfl rfl wI) ?_
  refine nM ?_
  refine nN ?_
  refine nG V.f75_0 ?_
  refine nR (fun y FF hA => v_load V.s71 rfl mm0 rfl) ?_
  refine nE (fun y FF hA => st_callN (Post := [LW bl B (a + 10) [] 0]) (c_take bl B (a + 5) [] 0 5 hl hB (by omega) (by omega)) V.b56 rfl (rz1 .nil) (fun v G h => by rcases h with ⟨rfl, rfl⟩; exact ⟨rfl, .refl _⟩)) ?_
  refine nV (fun y hA L => v_add rfl rfl wI) ?_
  refine nM ?_
  refine nN ?_
  refine nG V.f75_0 ?_
  refine nR (fun y FF hA => v_load V.s71 rfl mm0 rfl) ?_
  refine net_pan (undef) _ _ (fun y => rfl) rfl (fun y => rfl) (fun y FF hA => st_callE (c_takeE bl B (a + 10) [] 0 4 hl hB (by omega) (by omega) (by omega)) V.b56 rfl (.cons rr1 .nil) (by rintro _ _ ⟨rfl, rfl⟩; exact x_pe (InfP.told_1 (by omega)) PE.end_ (fold' (.cons rr1 .nil) (by exact dp1 (M := FF) (F := F)) (fun w0 h hh => mx_close hh)))) ?_
  refine net_pan (.bool true) _ _ (fun y => rfl) rfl (fun y => rfl) (fun y FF hA => (KnN.fact (hA 16 (by decide)) (q := fun _ => False) rfl).elim) ?_
  refine net_pan (.bool true) _ _ (fun y => rfl) rfl (fun y => rfl) (fun y FF hA => (KnN.fact (hA 16 (by decide)) (q := fun _ => False) rfl).elim) ?_
  refine net_pan (.bool true) _ _ (fun y => rfl) rfl (fun y => rfl) (fun y FF hA => (KnN.fact (hA 16 (by decide)) (q := fun _ => False) rfl).elim) ?_
  refine net_pan (.bool true) _ _ (fun y => rfl) rfl (fun y => rfl) (fun y FF hA => (KnN.fact (hA 16 (by decide)) (q := fun _ => False) rfl).elim) ?_
  refine net_nil ?_
  intro y hA
  exact (KnN.fact (hA 16 (by exact Nat.le_of_ble_eq_true rfl)) (q := fun _ => False) rfl).elim
 ·refine rT TTZiQ 1 rfl ?_
  refine wN [pz 0 [] [0], pz 1 [0] [], pz 3 [1] [], pz 7 [2] [], pz 15 [3] [], pz 31 [4] [], pz 0 [] [0], pz 64 [6] [], pz 192 [7] [], pz 448 [8] [], pz 991 [9] [], pz 2015 [10] [], pz 0 [] [0], pz 4096 [12] [], pz 12288 [13] [], pz 28672 [14] [], pz 63455 [15] [], pz 128991 [16] [], pz 129023 [5] [], pz 393215 [11] [], pz 1048575 [17] []] [⟨fun y => Cel b 75 [.pointer (some ⟨bl, 0, none⟩), .int .i64 sz, .int .i64 mo, .slice po no co, .bool s.ended, .int .i64 0, .int .i64 s.kind, .int .i64 (s.left : Int), .bool s.last, li, di, .int .i64 (s.copies : Int), .int .i64 (s.far : Int)], none, none, [3, 9, 15]⟩, ⟨fun y => LW bl B a [] 0, none, some 4, []⟩, ⟨fun y => LW bl B (a + 5) [] 0, some 4, some 10, []⟩, ⟨fun y => LW bl B (a + 10) [] 0, some 10, some 16, []⟩, ⟨fun y => LW bl B (a + 14) [] 0, some 16, none, []⟩] F V.mixed ?_
  refine nM ?_
  refine nN ?_
  refine nG V.f75_0 ?_
  refine nR (fun y FF hA => v_load V.s71 rfl mm0 rfl) ?_
  refine nE (fun y FF hA => st_callN (Post := [LW bl B (a + 5) [] 0]) (c_take bl B a [] 0 5 hl hB (by omega) (by omega)) V.b56 rfl (rz1 .nil) (fun v G h => by rcases h with ⟨rfl, rfl⟩; exact ⟨rfl, .refl _⟩)) ?_
  refine nV (fun y hA L => v_add rfl rfl wI) ?_
  refine nM ?_
  refine nN ?_
  refine nG V.f75_0 ?_
  refine nR (fun y FF hA => v_load V.s71 rfl mm0 rfl) ?_
  refine nE (fun y FF hA => st_callN (Post := [LW bl B (a + 10) [] 0]) (c_take bl B (a + 5) [] 0 5 hl hB (by omega) (by omega)) V.b56 rfl (rz1 .nil) (fun v G h => by rcases h with ⟨rfl, rfl⟩; exact ⟨rfl, .refl _⟩)) ?_
  refine nV (fun y hA L => v_add rfl rfl wI) ?_
  refine nM ?_
  refine nN ?_
  refine nG V.f75_0 ?_
  refine nR (fun y FF hA => v_load V.s71 rfl mm0 rfl) ?_
  refine nE (fun y FF hA => st_callN (Post := [LW bl B (a + 14) [] 0]) (c_take bl B (a + 10) [] 0 4 hl hB (by omega) (by omega)) V.b56 rfl (rz1 .nil) (fun v G h => by rcases h with ⟨rfl, rfl⟩; exact ⟨rfl, .refl _⟩)) ?_
  refine nV (fun y hA L => v_add rfl rfl wI) ?_
  iterate 3 refine nA ?_
  refine net_nil ?_
  intro y hA
  clear hA
  refine thn_n ?_
  refine w_keep _ (.cons (d := 0) rfl (.cons (d := 2) rfl (.cons (d := 3) rfl (.cons (d := 4) rfl (.nil _))))) ?_
  refine w_sub (M := Cel b 75 [.pointer (some ⟨bl, 0, none⟩), .int .i64 sz, .int .i64 mo, .slice po no co, .bool s.ended, .int .i64 0, .int .i64 s.kind, .int .i64 (s.left : Int), .bool s.last, li, di, .int .i64 (s.copies : Int), .int .i64 (s.far : Int)] :: LW bl B (a + 14) [] 0 :: F) (fun _ _ h => h) ?_
  rcases (InfP.or3 (InfP.hL B a ≤ 286) (InfP.hD B a ≤ 30)) with ⟨hq1, hq2⟩ | ⟨hq1, hq2⟩ | hq1
  ·refine rC TTZiQ 1 rfl ?_
   rw [he1, he2, he3]
   refine rC TTZiQ 2 rfl ?_
   refine oV (v_T (v_leq rfl rfl) (by omega)) ?_
   refine rO TTZiQ 2 rfl ?_
   refine o_want rfl ?_
   refine oV (v_T (v_leq rfl rfl) (by omega)) ?_
   refine oV (v_pickT rfl rfl) ?_
   refine o_call (c_must 4) V.b62  rfl .nil rfl ?_
   rintro _ _ ⟨rfl, rfl⟩
   refine rO TTZiQ 4 rfl ?_
   refine o_call (c_row 0 19 (by omega)) V.b82  rfl .nil rfl ?_
   rintro _ _ ⟨p37, c37, rfl, rfl⟩
   refine rO TTZiQ 6 rfl ?_
   refine o_call (c_order) V.b84  rfl .nil rfl ?_
   rintro _ _ ⟨p38, rfl, rfl⟩
   refine oV (v_move rfl) ?_
   refine oV (v_slice0 (InfP.hC B a) _ V.sl77 rfl ⟨_, rfl⟩ rfl (by omega) (by omega)) ?_
   refine rO TTZiQ 5 rfl ?_
   rw [← InfP.frs_zero B (a + 14)]
   rw [show LW bl B (a + 14) [] 0 = LW bl B (a + 14 + 3 * 0) [] 0 from rfl]
   refine w_loop1 (fun (k : Nat) => [(0, .pointer (some ⟨b, 0, none⟩)), (2, .int .i64 (InfP.hL B a : Int)), (3, .int .i64 (InfP.hD B a : Int)), (5, .slice p37 19 c37), (40, .slice p38 (InfP.hC B a) 19), (41, .int .i64 ((InfP.hC B a) : Int)), (42, .int .i64 (k : Int))]) (fun (k : Nat) => Row I3 p37 19 c37 (InfP.frs B (a + 14) k) :: Row I3 p38 19 19 InfP.ordr :: Cel b 75 [.pointer (some ⟨bl, 0, none⟩), .int .i64 sz, .int .i64 mo, .slice po no co, .bool s.ended, .int .i64 0, .int .i64 s.kind, .int .i64 (s.left : Int), .bool s.last, li, di, .int .i64 (s.copies : Int), .int .i64 (s.far : Int)] :: LW bl B (a + 14 + 3 * k) [] 0 :: F) (fun (k : Nat) => k ≤ InfP.hC B a ∧ a + 14 + 3 * k ≤ 8 * B.length) (fun (k : Nat) => InfP.hC B a - k) (i1 (0) ?_ (lc2 (lc5 ln)) (sub (.cons rr1 (rz3 .nil)) dd0)) ?_
   ·exact ⟨Nat.zero_le _, by omega⟩
   intro k
   rintro ⟨hk, hk2⟩
   refine rL TTZiQ 6 rfl ?_
   refine w_condD rfl (fun h43 => ?_) (fun h43 => ?_)
   ·refine rC TTZiQ 5 rfl ?_
    have hoo : 0 ≤ I3.g InfP.ordr (k : Int) ∧ I3.g InfP.ordr (k : Int) < 19 := InfP.ordr_at (k := k) (by omega)
    refine w_region ?_
    refine oV (r_index (c := (I3)) V.sl77 rfl rfl (by exact (own mm1).take _ (by omega)) (by omega) (by omega)) ?_
    refine oV (xL V.s3 (own mm1)) ?_
    refine rO TTZiQ 3 rfl ?_
    rcases (Nat.lt_or_ge (8 * B.length) ((a + 14 + 3 * k) + 3)) with hx | hx
    ·refine rC TTZiQ 6 rfl ?_
     refine oV (v_load V.s71 rfl mm2 rfl) ?_
     refine o_callE (c_takeE bl B (a + 14 + 3 * k) [] 0 3 hl hB (by omega) (by omega) (by omega)) V.b56 rfl (.cons rr3 .nil) ?_
     rintro _ _ ⟨rfl, rfl⟩
     refine (blk_p (thn_p (thn_p (blk_p (thn_p ?_)))))
     exact pe_pan (InfP.told_3 h14 ⟨hq1, hq2⟩ (by omega)) PE.end_ (fold' (.cons rr3 .nil) dd3 (fun w0 h hh => mx_close hh))
    ·refine rC TTZiQ 6 rfl ?_
     refine oV (v_load V.s71 rfl mm2 rfl) ?_
     refine o_call (c_take bl B (a + 14 + 3 * k) [] 0 3 hl hB (by omega) (by omega)) V.b56  rfl (.cons rr3 .nil) rfl ?_
     rintro _ _ ⟨rfl, rfl⟩
     refine oV (xI V.sl77 (own mm1)) ?_
     refine o_eff (r_store (c := (I3)) (_) V.s3 rfl rfl rfl (by exact pp1) (by omega) (by omega) rfl rfl) ?_
     refine rOs TTZiQ 7 rfl (by omega) ?_
     rw [show (InfP.frs B (a + 14) k).set (I3.g InfP.ordr (k : Int)).toNat (BitP.numL B (a + 14 + 3 * k) 3) = InfP.frs B (a + 14) (k + 1) from (InfP.frs_succ B (a + 14) k).symm]
     rw [show a + 14 + 3 * k + 3 = a + 14 + 3 * (k + 1) from by omega]
     refine j1 (k + 1) ?_ (lc2 (lc5 ln)) (sub (.cons rr1 (.cons rr1 (.cons rr1 (rz1 .nil)))) dd0)
     exact ⟨⟨by omega, by omega⟩, by omega⟩
   ·refine rC TTZiQ 5 rfl ?_
    rcases (Classical.em (HuffP.newE (InfP.toldC B a) = 0)) with hy | hy
    ·refine rC TTZiQ 1 rfl ?_
     have hkC : k = InfP.hC B a := by omega
     rw [show InfP.frs B (a + 14) k = InfP.toldC B a from by rw [hkC]; exact (InfP.toldC_eq B a).symm, show a + 14 + 3 * k = InfP.toldA B a from by omega]
     have hta : InfP.toldA B a ≤ 8 * B.length := by omega
     refine rC TTZiQ 2 rfl ?_
     refine o_call (c_codeY p37 19 c37 (InfP.toldC B a) (Row I3 p37 19 c37 (InfP.toldC B a)) (InfP.toldC_len B a).symm (fun _ _ hh => row_rd (InfP.toldC_len B a).symm hh) hy) V.b83  rfl (rz1 .nil) rfl ?_
     rintro _ _ ⟨bc, rfl, rfl⟩
     refine rO TTZiQ 10 rfl ?_
     refine w_add0 (Row I3 none 0 0 []) (Row.nil _ _ _) ?_
     refine w_loop5 (fun (l : List Int) (f : Nat) (x : Nat) (pr : Option Addr) (cr : Nat) => [(0, .pointer (some ⟨b, 0, none⟩)), (2, .int .i64 (InfP.hL B a : Int)), (3, .int .i64 (InfP.hD B a : Int)), (8, .pointer (some ⟨bc, 0, none⟩)), (9, .slice pr l.length cr)]) (fun (l : List Int) (f : Nat) (x : Nat) (pr : Option Addr) (cr : Nat) => Row I3 pr l.length cr l :: HC bc (InfP.toldC B a) :: Cel b 75 [.pointer (some ⟨bl, 0, none⟩), .int .i64 sz, .int .i64 mo, .slice po no co, .bool s.ended, .int .i64 0, .int .i64 s.kind, .int .i64 (s.left : Int), .bool s.last, li, di, .int .i64 (s.copies : Int), .int .i64 (s.far : Int)] :: LW bl B x [] 0 :: F) (fun (l : List Int) (f : Nat) (x : Nat) (pr : Option Addr) (cr : Nat) => InfP.lnGo B (InfP.toldC B a) (InfP.toldN B a) (InfP.toldN B a) [] (InfP.toldA B a) = InfP.lnGo B (InfP.toldC B a) (InfP.toldN B a) f l x ∧ (InfP.toldN B a) ≤ f + l.length ∧ l.length ≤ (InfP.toldN B a) ∧ x ≤ 8 * B.length) (fun (l : List Int) (f : Nat) (x : Nat) (pr : Option Addr) (cr : Nat) => (InfP.toldN B a) - l.length) (i5 ([]) ((InfP.toldN B a)) ((InfP.toldA B a)) (none) (0) ?_ (lc5 ln) (sub (rz2 (.cons rr2 (.cons rr2 .nil))) dd2)) ?_
     ·exact ⟨rfl, Nat.le_add_right _ _, Nat.zero_le _, hta⟩
     intro l f x pr cr
     rintro ⟨hg, hf, hlt, hx⟩
     refine rLs TTZiQ 11 rfl (by omega) ?_
     refine w_condD rfl (fun h62 => ?_) (fun h62 => ?_)
     ·refine rC TTZiQ 3 rfl ?_
      rcases (InfP.ln_or B (InfP.toldC B a) l x) with ⟨e, hs⟩ | ⟨sy, x2, e, hs, hr⟩ | ⟨sy, x2, xx, nn, x3, hs, hr⟩
      ·refine rC TTZiQ 7 rfl ?_
       refine oV (v_load V.s71 rfl mm2 rfl) ?_
       refine o_callE ((c_sym bc (InfP.toldC B a) bl B x [] 0 hy hl hB hx).err hs) V.b66 rfl (.cons rr1 (.cons rr2 .nil)) ?_
       rintro _ _ ⟨hp, rfl⟩
       refine (thn_p (blk_p (thn_p (blk_p (thn_p ?_)))))
       exact pe_pan (InfP.told_5 h14 ⟨hq1, hq2⟩ hta hy (hg.trans (InfP.lnGo_err (by omega) hf (InfP.lnStep_1 hs)))) hp (fold' (.cons rr1 .nil) dd1 (fun w0 h hh => mx_close hh))
      ·refine rC TTZiQ 1 rfl ?_
       have hsz := InfP.sym_ok hy (by rw [InfP.toldC_len]; omega) hs
       rw [InfP.toldC_len] at hsz
       have hsy : 0 ≤ sy ∧ sy ≤ 18 := by omega
       have hx2 : x2 ≤ 8 * B.length := by omega
       refine rC TTZiQ 6 rfl ?_
       refine oV (v_load V.s71 rfl mm2 rfl) ?_
       refine o_call ((c_sym bc (InfP.toldC B a) bl B x [] 0 hy hl hB hx).ok hs) V.b66  rfl (.cons rr1 (.cons rr2 .nil)) rfl ?_
       rintro _ _ ⟨rfl, rfl⟩
       refine oV (v_move rfl) ?_
       refine o_callE ((c_rep b bl sz mo po no co li di s B x2 sy pr cr l hsy hl hB hx2 (by omega)).err hr) V.b85 rfl (.cons rr3 (.cons rr1 (.cons rr1 .nil))) ?_
       rintro _ _ ⟨hp, rfl⟩
       refine (thn_p (blk_p (thn_p (blk_p (thn_p ?_)))))
       exact pe_pan (InfP.told_5 h14 ⟨hq1, hq2⟩ hta hy (hg.trans (InfP.lnGo_err (by omega) hf (InfP.lnStep_2 hs hr)))) hp (sub (rz1 .nil) dd1)
      ·refine rC TTZiQ 1 rfl ?_
       have hsz := InfP.sym_ok hy (by rw [InfP.toldC_len]; omega) hs
       rw [InfP.toldC_len] at hsz
       have hsy : 0 ≤ sy ∧ sy ≤ 18 := by omega
       have hx2 : x2 ≤ 8 * B.length := by omega
       have hrg := InfP.rep_good hx2 hr
       refine rC TTZiQ 6 rfl ?_
       refine oV (v_load V.s71 rfl mm2 rfl) ?_
       refine o_call ((c_sym bc (InfP.toldC B a) bl B x [] 0 hy hl hB hx).ok hs) V.b66  rfl (.cons rr1 (.cons rr2 .nil)) rfl ?_
       rintro _ _ ⟨rfl, rfl⟩
       refine oV (v_move rfl) ?_
       refine o_call ((c_rep b bl sz mo po no co li di s B x2 sy pr cr l hsy hl hB hx2 (by omega)).ok hr) V.b85  rfl (.cons rr3 (.cons rr1 (.cons rr1 .nil))) rfl ?_
       rintro _ _ ⟨rfl, rfl⟩
       refine rO TTZiQ 12 rfl ?_
       refine o_call (c_rowI xx nn (by omega)) V.b82  rfl .nil rfl ?_
       rintro _ _ ⟨p78, c78, rfl, rfl⟩
       refine r_append (c := (I3)) V.sl77 V.z3 rfl rfl rfl rfl rr3 (own mm0) (by omega) rfl ?_
       intro p79 c79
       refine rO TTZiQ 3 rfl ?_
       rcases (Nat.lt_or_ge (InfP.toldN B a) (l.length + nn.toNat)) with hbg | hbg
       ·refine rCs TTZiQ 6 rfl (by omega) ?_
        refine oV (v_F (v_leq rfl rfl) (by omega)) ?_
        refine o_callE (c_mustE 4) V.b62 rfl .nil ?_
        rintro _ _ ⟨rfl, rfl⟩
        refine (blk_p (thn_p (blk_p (thn_p ?_))))
        exact pe_pan (InfP.told_5 h14 ⟨hq1, hq2⟩ hta hy (hg.trans (InfP.lnGo_big (by omega) hf (InfP.lnStep_3 hs hr) (by rw [List.length_append, List.length_replicate]; omega)))) (PE.no (by decide)) (fold' (.cons rr2 .nil) dd4 (fun w0 h hh => mx_close hh))
       ·refine rCs TTZiQ 6 rfl (by omega) ?_
        refine oV (v_T (v_leq rfl rfl) (by omega)) ?_
        refine o_call (c_must 4) V.b62  rfl .nil rfl ?_
        rintro _ _ ⟨rfl, rfl⟩
        refine rO TTZiQ 2 rfl ?_
        rw [show l.length + nn.toNat = (l ++ List.replicate nn.toNat xx).length from by rw [List.length_append, List.length_replicate]]
        have hll : (l ++ List.replicate nn.toNat xx).length = l.length + nn.toNat := by rw [List.length_append, List.length_replicate]
        refine j5 (l ++ List.replicate nn.toNat xx) (f - 1) (x3) (_) (_) ?_ (lc5 ln) (sub (rz1 (.cons rr3 (.cons rr1 (.cons rr1 .nil)))) dd1)
        exact ⟨⟨hg.trans (InfP.lnGo_next (by omega) hf (InfP.lnStep_3 hs hr) (by omega)), by omega, by omega, by omega⟩, by omega⟩
     ·refine rC TTZiQ 5 rfl ?_
      rcases (InfP.or3 (HuffP.newE (l.take (InfP.hL B a)) = 0) (HuffP.newE (l.drop (InfP.hL B a)) = 0)) with ⟨hc1, hc2⟩ | ⟨hc1, hc2⟩ | hc1
      ·refine rC TTZiQ 1 rfl ?_
       have hlt : l.length = InfP.toldN B a := by omega
       have hz := hg.trans (InfP.lnGo_end (B := B) (c := InfP.toldC B a) (f := f) (a := x) (show InfP.toldN B a ≤ l.length by omega))
       refine w_cap (p := pr) (n := l.length) (cap := cr) (l := l) (c := I3) mm0 fun hcap => ?_
       refine w_net [pz 0 [] [0], pz 0 [] [0], pz 0 [] [9], pz 0 [] [2], pz 12 [2, 3] [], pz 28 [4] [], pz 0 [] [9], pz 0 [] [2], pz 192 [6, 7] [], pz 508 [8] [], pz 1021 [0] [], pz 2045 [10] [], pz 4093 [11, 5] [], pz 8191 [1] [], pz 16383 [13] [], pz 32767 [14, 9] []] [⟨fun y => Row I3 pr l.length cr l, none, some 5, []⟩, ⟨fun y => HC bc (InfP.toldC B a), none, none, []⟩, ⟨fun y => Cel b 75 [.pointer (some ⟨bl, 0, none⟩), .int .i64 sz, .int .i64 mo, .slice po no co, .bool s.ended, .int .i64 0, .int .i64 s.kind, .int .i64 (s.left : Int), .bool s.last, li, di, .int .i64 (s.copies : Int), .int .i64 (s.far : Int)], none, some 12, []⟩, ⟨fun y => LW bl B x [] 0, none, none, []⟩, ⟨fun y => HC (ptB (y 5)) (l.take (InfP.hL B a)), some 5, none, []⟩, ⟨fun y => Row I3 pr l.length cr l, some 5, some 9, []⟩, ⟨fun y => HC (ptB (y 9)) (l.drop (InfP.hL B a)), some 9, none, []⟩, ⟨fun y => Row I3 pr l.length cr l, some 9, none, []⟩, ⟨fun y => Cel b 75 [.pointer (some ⟨bl, 0, none⟩), .int .i64 sz, .int .i64 mo, .slice po no co, .bool s.ended, .int .i64 0, .int .i64 s.kind, .int .i64 (s.left : Int), .bool s.last, .pointer (some ⟨ptB (y 5), 0, none⟩), di, .int .i64 (s.copies : Int), .int .i64 (s.far : Int)], some 12, some 15, []⟩, ⟨fun y => Cel b 75 [.pointer (some ⟨bl, 0, none⟩), .int .i64 sz, .int .i64 mo, .slice po no co, .bool s.ended, .int .i64 0, .int .i64 s.kind, .int .i64 (s.left : Int), .bool s.last, .pointer (some ⟨ptB (y 5), 0, none⟩), .pointer (some ⟨ptB (y 9), 0, none⟩), .int .i64 (s.copies : Int), .int .i64 (s.far : Int)], some 15, none, []⟩] F V.mixed (by kernel_rfl) rfl (fun _ => .refl _) (locT_0 _ (locT_0 _ (locT_0 _ (locT_0 _ (locT_1 _ rfl (by intro y y2 h; simp only [h 5 (.inl rfl)]) (locT_1 _ rfl (by intro y y2 h; rfl) (locT_1 _ rfl (by intro y y2 h; simp only [h 9 (.inl rfl)]) (locT_1 _ rfl (by intro y y2 h; rfl) (locT_1 _ rfl (by intro y y2 h; simp only [h 5 (.inr (by decide))]) (locT_1 _ rfl (by intro y y2 h; simp only [h 5 (.inr (by decide)), h 9 (.inr (by decide))]) locT_nil)))))))))) ?_
       iterate 4 refine nM ?_
       refine nV (fun y hA L => v_slice0 (InfP.hL B a) _ V.sl77 rfl ⟨_, rfl⟩ rfl (by omega) (by omega)) ?_
       refine net_new (fun y v => .pointer (some ⟨ptB v, 0, none⟩)) (fun y v => True) _ _ (fun y v => [HC (ptB v) (l.take (InfP.hL B a)), Row I3 pr l.length cr l]) _ (fun y => rfl) (fun y => rfl) (fun y => rfl) (fun y => rfl) (fun y FF hA => st_callP (A := fun z => HC z (l.take (InfP.hL B a))) (Post := [Row I3 pr l.length cr l]) (c_codeY pr (InfP.hL B a) cr (l.take (InfP.hL B a)) (Row I3 pr l.length cr l) (by (rw [List.length_take]; omega)) (fun _ _ hh => row_take rfl (by omega) hh) hc1) V.b83 rfl (rz1 .nil)) (by intros; rfl) (by intros; rfl) (by intros; rfl) (by intro y y2 h; simp only [h 5 (.inl rfl)]) (by intro y y2 h; rfl) ?_
       iterate 2 refine nM ?_
       refine nV (fun y hA L => v_slice (InfP.hL B a) _ _ V.sl77 rfl ⟨_, rfl⟩ ⟨rfl, rfl⟩ rfl (by omega) (by omega) (by omega)) ?_
       refine net_new (fun y v => .pointer (some ⟨ptB v, 0, none⟩)) (fun y v => True) _ _ (fun y v => [HC (ptB v) (l.drop (InfP.hL B a)), Row I3 pr l.length cr l]) _ (fun y => rfl) (fun y => rfl) (fun y => rfl) (fun y => rfl) (fun y FF hA => st_callP (A := fun z => HC z (l.drop (InfP.hL B a))) (Post := [Row I3 pr l.length cr l]) (c_codeY (subP pr (InfP.hL B a) cr 1) (l.length - (InfP.hL B a)) (cr - (InfP.hL B a)) (l.drop (InfP.hL B a)) (Row I3 pr l.length cr l) (by rw [List.length_drop]) (fun _ _ hh => row_drop rfl (by omega) hcap hh) hc2) V.b83 rfl (rz1 .nil)) (by intros; rfl) (by intros; rfl) (by intros; rfl) (by intro y y2 h; simp only [h 9 (.inl rfl)]) (by intro y y2 h; rfl) ?_
       refine nN ?_
       refine nG V.f75_9 ?_
       refine nE (fun y FF hA => st_v (v_store V.s73 rfl rfl rfl (by exact pp0) (by exact Nat.le_of_ble_eq_true rfl) rfl) ⟨rfl, .refl _⟩) ?_
       refine nN ?_
       refine nG V.f75_10 ?_
       refine nE (fun y FF hA => st_v (v_store V.s73 rfl rfl rfl (by exact pp0) (by exact Nat.le_of_ble_eq_true rfl) rfl) ⟨rfl, .refl _⟩) ?_
       refine net_nil ?_
       intro y hA
       clear hA
       refine thn_n ?_
       refine w_keep _ (.cons (d := 9) rfl (.nil _)) ?_
       refine w_sub (M := HC bc (InfP.toldC B a) :: LW bl B x [] 0 :: HC (ptB (y 5)) (l.take (InfP.hL B a)) :: HC (ptB (y 9)) (l.drop (InfP.hL B a)) :: Row I3 pr l.length cr l :: Cel b 75 [.pointer (some ⟨bl, 0, none⟩), .int .i64 sz, .int .i64 mo, .slice po no co, .bool s.ended, .int .i64 0, .int .i64 s.kind, .int .i64 (s.left : Int), .bool s.last, .pointer (some ⟨ptB (y 5), 0, none⟩), .pointer (some ⟨ptB (y 9), 0, none⟩), .int .i64 (s.copies : Int), .int .i64 (s.far : Int)] :: F) (fun _ _ h => h) ?_
       generalize (ptB (y 5)) = q92
       generalize (ptB (y 9)) = q96
       rcases (Classical.em (l.getD 256 0 = 0)) with hend | hend
       ·have hnn := InfP.code_nn hc1 256
        rw [InfP.getD_take (show 256 < InfP.hL B a by omega)] at hnn
        refine rC TTZiQ 2 rfl ?_
        refine oV (xI V.sl77 (own mm4)) ?_
        refine oV (xL V.s3 (own mm4)) ?_
        refine oV (v_F (v_gtr rfl rfl) (by rw [show I3.g l 256 = l.getD 256 0 from rfl]; omega)) ?_
        refine o_callE (c_mustE 4) V.b62 rfl .nil ?_
        rintro _ _ ⟨rfl, rfl⟩
        skip
        exact pe_pan (InfP.told_6 h14 ⟨hq1, hq2⟩ hta hy hz (.inr (.inr hend))) (PE.no (by decide)) (fold' (.cons rr5 .nil) dd5 (fun w0 h hh => mx_close hh))
       ·have hnn := InfP.code_nn hc1 256
        rw [InfP.getD_take (show 256 < InfP.hL B a by omega)] at hnn
        refine rC TTZiQ 2 rfl ?_
        refine oV (xI V.sl77 (own mm4)) ?_
        refine oV (xL V.s3 (own mm4)) ?_
        refine oV (v_T (v_gtr rfl rfl) (by rw [show I3.g l 256 = l.getD 256 0 from rfl]; omega)) ?_
        refine o_call (c_must 4) V.b62  rfl .nil rfl ?_
        rintro _ _ ⟨rfl, rfl⟩
        refine o_nil ?_
        exact pe_end (InfP.told_7 h14 ⟨hq1, hq2⟩ hta hy hz hc1 hc2 hend) res0 ⟨_, _, rfl, rfl⟩ (sub (.cons rr5 (.cons rr1 (.cons rr1 (.cons rr1 .nil)))) dd2)
      ·refine rC TTZiQ 1 rfl ?_
       have hlt : l.length = InfP.toldN B a := by omega
       have hz := hg.trans (InfP.lnGo_end (B := B) (c := InfP.toldC B a) (f := f) (a := x) (show InfP.toldN B a ≤ l.length by omega))
       refine w_cap (p := pr) (n := l.length) (cap := cr) (l := l) (c := I3) mm0 fun hcap => ?_
       refine w_net [pz 0 [] [0], pz 0 [] [0], pz 0 [] [9], pz 0 [] [2], pz 12 [2, 3] [], pz 28 [4] [], pz 0 [] [9], pz 0 [] [2], pz 192 [6, 7] [], pz 508 [8] [], pz 1021 [0] [], pz 2045 [10] [], pz 4093 [11, 5] [], pz 8191 [1] [], pz 16383 [13] [], pz 32767 [14, 9] []] [⟨fun y => Row I3 pr l.length cr l, none, some 5, []⟩, ⟨fun y => HC bc (InfP.toldC B a), none, none, []⟩, ⟨fun y => Cel b 75 [.pointer (some ⟨bl, 0, none⟩), .int .i64 sz, .int .i64 mo, .slice po no co, .bool s.ended, .int .i64 0, .int .i64 s.kind, .int .i64 (s.left : Int), .bool s.last, li, di, .int .i64 (s.copies : Int), .int .i64 (s.far : Int)], none, none, [9]⟩, ⟨fun y => LW bl B x [] 0, none, none, []⟩, ⟨fun y => HC (ptB (y 5)) (l.take (InfP.hL B a)), some 5, none, []⟩, ⟨fun y => Row I3 pr l.length cr l, some 5, none, [9]⟩] F V.mixed (by kernel_rfl) rfl (fun _ => .refl _) (locT_0 _ (locT_0 _ (locT_0 _ (locT_0 _ (locT_1 _ rfl (by intro y y2 h; simp only [h 5 (.inl rfl)]) (locT_1 _ rfl (by intro y y2 h; rfl) locT_nil)))))) ?_
       iterate 4 refine nM ?_
       refine nV (fun y hA L => v_slice0 (InfP.hL B a) _ V.sl77 rfl ⟨_, rfl⟩ rfl (by omega) (by omega)) ?_
       refine net_new (fun y v => .pointer (some ⟨ptB v, 0, none⟩)) (fun y v => True) _ _ (fun y v => [HC (ptB v) (l.take (InfP.hL B a)), Row I3 pr l.length cr l]) _ (fun y => rfl) (fun y => rfl) (fun y => rfl) (fun y => rfl) (fun y FF hA => st_callP (A := fun z => HC z (l.take (InfP.hL B a))) (Post := [Row I3 pr l.length cr l]) (c_codeY pr (InfP.hL B a) cr (l.take (InfP.hL B a)) (Row I3 pr l.length cr l) (by (rw [List.length_take]; omega)) (fun _ _ hh => row_take rfl (by omega) hh) hc1) V.b83 rfl (rz1 .nil)) (by intros; rfl) (by intros; rfl) (by intros; rfl) (by intro y y2 h; simp only [h 5 (.inl rfl)]) (by intro y y2 h; rfl) ?_
       iterate 2 refine nM ?_
       refine nV (fun y hA L => v_slice (InfP.hL B a) _ _ V.sl77 rfl ⟨_, rfl⟩ ⟨rfl, rfl⟩ rfl (by omega) (by omega) (by omega)) ?_
       refine net_pan (undef) _ _ (fun y => rfl) rfl (fun y => rfl) (fun y FF hA => st_callE (c_codeX (subP pr (InfP.hL B a) cr 1) (l.length - (InfP.hL B a)) (cr - (InfP.hL B a)) (l.drop (InfP.hL B a)) (Row I3 pr l.length cr l) (by rw [List.length_drop]) (fun _ _ hh => row_drop rfl (by omega) hcap hh) hc2) V.b83 rfl (.cons rr1 .nil) (by rintro _ _ ⟨hp, rfl⟩; exact x_pe (InfP.told_6 h14 ⟨hq1, hq2⟩ hta hy hz (.inr (.inl hc2))) hp (fold' (rz1 .nil) (by exact dp0 (M := FF) (F := F)) (fun w0 h hh => mx_close hh)))) ?_
       refine net_pan (.bool true) _ _ (fun y => rfl) rfl (fun y => rfl) (fun y FF hA => (KnN.fact (hA 9 (by decide)) (q := fun _ => False) rfl).elim) ?_
       refine net_pan (.bool true) _ _ (fun y => rfl) rfl (fun y => rfl) (fun y FF hA => (KnN.fact (hA 9 (by decide)) (q := fun _ => False) rfl).elim) ?_
       refine net_pan (.bool true) _ _ (fun y => rfl) rfl (fun y => rfl) (fun y FF hA => (KnN.fact (hA 9 (by decide)) (q := fun _ => False) rfl).elim) ?_
       refine net_pan (.bool true) _ _ (fun y => rfl) rfl (fun y => rfl) (fun y FF hA => (KnN.fact (hA 9 (by decide)) (q := fun _ => False) rfl).elim) ?_
       refine net_pan (.bool true) _ _ (fun y => rfl) rfl (fun y => rfl) (fun y FF hA => (KnN.fact (hA 9 (by decide)) (q := fun _ => False) rfl).elim) ?_
       refine net_pan (.bool true) _ _ (fun y => rfl) rfl (fun y => rfl) (fun y FF hA => (KnN.fact (hA 9 (by decide)) (q := fun _ => False) rfl).elim) ?_
       refine net_nil ?_
       intro y hA
       exact (KnN.fact (hA 9 (by exact Nat.le_of_ble_eq_true rfl)) (q := fun _ => False) rfl).elim
      ·refine rC TTZiQ 1 rfl ?_
       have hlt : l.length = InfP.toldN B a := by omega
       have hz := hg.trans (InfP.lnGo_end (B := B) (c := InfP.toldC B a) (f := f) (a := x) (show InfP.toldN B a ≤ l.length by omega))
       refine w_cap (p := pr) (n := l.length) (cap := cr) (l := l) (c := I3) mm0 fun hcap => ?_
       refine wN [pz 0 [] [0], pz 0 [] [0], pz 0 [] [9], pz 0 [] [2], pz 12 [2, 3] [], pz 28 [4] [], pz 0 [] [9], pz 0 [] [2], pz 192 [6, 7] [], pz 508 [8] [], pz 1021 [0] [], pz 2045 [10] [], pz 4093 [11, 5] [], pz 8191 [1] [], pz 16383 [13] [], pz 32767 [14, 9] []] [⟨fun y => Row I3 pr l.length cr l, none, none, [5]⟩, ⟨fun y => HC bc (InfP.toldC B a), none, none, []⟩, ⟨fun y => Cel b 75 [.pointer (some ⟨bl, 0, none⟩), .int .i64 sz, .int .i64 mo, .slice po no co, .bool s.ended, .int .i64 0, .int .i64 s.kind, .int .i64 (s.left : Int), .bool s.last, li, di, .int .i64 (s.copies : Int), .int .i64 (s.far : Int)], none, none, [5]⟩, ⟨fun y => LW bl B x [] 0, none, none, []⟩] F V.mixed ?_
       iterate 4 refine nM ?_
       refine nV (fun y hA L => v_slice0 (InfP.hL B a) _ V.sl77 rfl ⟨_, rfl⟩ rfl (by omega) (by omega)) ?_
       refine net_pan (undef) _ _ (fun y => rfl) rfl (fun y => rfl) (fun y FF hA => st_callE (c_codeX pr (InfP.hL B a) cr (l.take (InfP.hL B a)) (Row I3 pr l.length cr l) (by (rw [List.length_take]; omega)) (fun _ _ hh => row_take rfl (by omega) hh) hc1) V.b83 rfl (rz1 .nil) (by rintro _ _ ⟨hp, rfl⟩; exact x_pe (InfP.told_6 h14 ⟨hq1, hq2⟩ hta hy hz (.inl hc1)) hp (fold' (rz1 .nil) (by exact dp0 (M := FF) (F := F)) (fun w0 h hh => mx_close hh)))) ?_
       iterate 2 refine nM ?_
       refine nV (fun y hA L => v_slice (InfP.hL B a) _ _ V.sl77 rfl ⟨_, rfl⟩ ⟨rfl, rfl⟩ rfl (by omega) (by omega) (by omega)) ?_
       refine net_pan (.bool true) _ _ (fun y => rfl) rfl (fun y => rfl) (fun y FF hA => (KnN.fact (hA 5 (by decide)) (q := fun _ => False) rfl).elim) ?_
       refine net_pan (.bool true) _ _ (fun y => rfl) rfl (fun y => rfl) (fun y FF hA => (KnN.fact (hA 5 (by decide)) (q := fun _ => False) rfl).elim) ?_
       refine net_pan (.bool true) _ _ (fun y => rfl) rfl (fun y => rfl) (fun y FF hA => (KnN.fact (hA 5 (by decide)) (q := fun _ => False) rfl).elim) ?_
       refine net_pan (.bool true) _ _ (fun y => rfl) rfl (fun y => rfl) (fun y FF hA => (KnN.fact (hA 5 (by decide)) (q := fun _ => False) rfl).elim) ?_
       refine net_pan (.bool true) _ _ (fun y => rfl) rfl (fun y => rfl) (fun y FF hA => (KnN.fact (hA 5 (by decide)) (q := fun _ => False) rfl).elim) ?_
       refine net_pan (.bool true) _ _ (fun y => rfl) rfl (fun y => rfl) (fun y FF hA => (KnN.fact (hA 5 (by decide)) (q := fun _ => False) rfl).elim) ?_
       refine net_pan (.bool true) _ _ (fun y => rfl) rfl (fun y => rfl) (fun y FF hA => (KnN.fact (hA 5 (by decide)) (q := fun _ => False) rfl).elim) ?_
       refine net_nil ?_
       intro y hA
       exact (KnN.fact (hA 5 (by exact Nat.le_of_ble_eq_true rfl)) (q := fun _ => False) rfl).elim
    ·refine rC TTZiQ 1 rfl ?_
     have hkC : k = InfP.hC B a := by omega
     rw [show InfP.frs B (a + 14) k = InfP.toldC B a from by rw [hkC]; exact (InfP.toldC_eq B a).symm, show a + 14 + 3 * k = InfP.toldA B a from by omega]
     have hta : InfP.toldA B a ≤ 8 * B.length := by omega
     refine rC TTZiQ 2 rfl ?_
     refine o_callE (c_codeX p37 19 c37 (InfP.toldC B a) (Row I3 p37 19 c37 (InfP.toldC B a)) (InfP.toldC_len B a).symm (fun _ _ hh => row_rd (InfP.toldC_len B a).symm hh) hy) V.b83 rfl (rz1 .nil) ?_
     rintro _ _ ⟨hp, rfl⟩
     refine (thn_p ?_)
     exact pe_pan (InfP.told_4 h14 ⟨hq1, hq2⟩ hta hy) hp (fold' (.cons rr1 .nil) dd2 (fun w0 h hh => mx_close hh))
  ·refine rC TTZiQ 1 rfl ?_
   rw [he1, he2, he3]
   refine rC TTZiQ 2 rfl ?_
   refine oV (v_T (v_leq rfl rfl) (by omega)) ?_
   refine rO TTZiQ 2 rfl ?_
   refine o_want rfl ?_
   refine oV (v_F (v_leq rfl rfl) (by omega)) ?_
   refine oV (v_pickT rfl rfl) ?_
   refine o_callE (c_mustE 4) V.b62 rfl .nil ?_
   rintro _ _ ⟨rfl, rfl⟩
   refine (thn_p ?_)
   exact pe_pan (InfP.told_2 h14 (by omega)) (PE.no (by decide)) (fold' (rz1 .nil) dd1 (fun w0 h hh => mx_close hh))
  ·refine rC TTZiQ 1 rfl ?_
   rw [he1, he2, he3]
   refine rC TTZiQ 2 rfl ?_
   refine oV (v_F (v_leq rfl rfl) (by omega)) ?_
   refine rO TTZiQ 4 rfl ?_
   refine o_callE (c_mustE 4) V.b62 rfl .nil ?_
   rintro _ _ ⟨rfl, rfl⟩
   refine (thn_p ?_)
   exact pe_pan (InfP.told_2 h14 (by omega)) (PE.no (by decide)) (fold' (rz1 .nil) dd1 (fun w0 h hh => mx_close hh))
end Go.Proofs.YtmbljkghkcgejaaGreat
namespace Go.Sl
def CD (li di : Value) (s : InfP.St) : HProp := fun w0 h => s.kind ≤ 0 ∨ ∃ l d, li = .pointer (some ⟨l, 0, none⟩) ∧ di = .pointer (some ⟨d, 0, none⟩) ∧ sats w0 [HC l s.lits, HC d s.dist] h
structure Pv where
 li : Value
 di : Value
def MM (b bl : Nat) (sz mo : Int) (B : List Int) (s : InfP.St) : HProp := fun w0 h => ∃ i : Pv, True ∧ sats w0 [MS b bl sz mo i.li i.di s, LW bl B s.at_ [] 0, CD i.li i.di s] h
theorem sats_last {w0 : World} {Bs : List HProp} {A : HProp} {h : Hp} (hA : ∀ h, sats w0 Bs h → A w0 h) (hh : sats w0 Bs h) : sats w0 [A] h := ⟨h, fun _ => none, fun _ => .inr rfl, Hp.le_refl _, (fun _ _ e => by cases e), hA h hh, trivial⟩
theorem sats_imp {w0 : World} {X : HProp} {L L' : List HProp} {h : Hp} (k : ∀ h, sats w0 L h → sats w0 L' h) (hh : sats w0 (X :: L) h) : sats w0 (X :: L') h := by
 obtain ⟨h1, h2, a, b, c, d, e⟩ := hh
 exact ⟨h1, h2, a, b, c, d, k h2 e⟩
theorem mm_close0 {b bl : Nat} {sz mo : Int} {B : List Int} {s : InfP.St} {li di : Value} {w0 : World} {h : Hp} (hk : s.kind ≤ 0) (hh : sats w0 [MS b bl sz mo li di s, LW bl B s.at_ [] 0] h) : MM b bl sz mo B s w0 h :=
 ⟨⟨li, di⟩, trivial, sats_imp (fun h hh => sats_imp (fun h hh => sats_last (fun h _ => .inl hk) hh) hh) hh⟩
theorem mm_closeC {b bl l d : Nat} {sz mo : Int} {B : List Int} {s : InfP.St} {w0 : World} {h : Hp} (hh : sats w0 [MS b bl sz mo (.pointer (some ⟨l, 0, none⟩)) (.pointer (some ⟨d, 0, none⟩)) s, LW bl B s.at_ [] 0, HC l s.lits, HC d s.dist] h) : MM b bl sz mo B s w0 h :=
 ⟨⟨_, _⟩, trivial, sats_imp (fun h hh => sats_imp (fun h hh => sats_last (fun h hh => .inr ⟨l, d, rfl, rfl, hh⟩) hh) hh) hh⟩
theorem mm_closeD {b bl : Nat} {sz mo : Int} {B : List Int} {s : InfP.St} {li di : Value} {w0 : World} {h : Hp} (hh : sats w0 [MS b bl sz mo li di s, LW bl B s.at_ [] 0, CD li di s] h) : MM b bl sz mo B s w0 h := ⟨⟨li, di⟩, trivial, hh⟩
theorem cd_open {li di : Value} {s : InfP.St} {w0 : World} {h : Hp} (hk : 0 < s.kind) (hh : CD li di s w0 h) : ∃ i : Nat × Nat, (li = .pointer (some ⟨i.1, 0, none⟩) ∧ di = .pointer (some ⟨i.2, 0, none⟩)) ∧ sats w0 [HC i.1 s.lits, HC i.2 s.dist] h := by
 rcases hh with hh | ⟨l, d, h1, h2, h3⟩
 ·exact absurd hk (by omega)
 ·exact ⟨(l, d), ⟨h1, h2⟩, h3⟩
theorem Ctr.fold {P : Program} {f : FuncId} {args : List Value} {A : HProp} {Bs : List HProp} {Post : Ending → List HProp → Prop} (h : Ctr P f args [A] Post) (hA : ∀ w0 h, sats w0 Bs h → A w0 h) : Ctr P f args Bs Post := fun w0 F w hi => h w0 F w (hi.cls (hA w0))
end Go.Sl
namespace Go.Proofs.YtmbljkghkcgejaaGreat
open Go.Sl 
theorem TTZiR : okT Tryz.prog ⟨[], [(75, 0, 0), (75, 6, 6), (75, 7, 7), (75, 8, 8)]⟩ = true := by kernel_rfl
attribute [local irreducible] HuffP.newE HuffP.tk HuffP.ord HuffP.cntL HuffP.words HuffP.mostL InfP.frs InfP.toldC InfP.toldN InfP.toldA InfP.hL InfP.hD InfP.hC InfP.lnGo InfP.told InfP.fixL InfP.codeE InfP.rep InfP.lenE InfP.awayE InfP.sym InfP.alg BitP.numL InfP.coded InfP.begin_
set_option maxHeartbeats 2000000 in
theorem c_length (b bl : Nat) (sz mo : Int) (po : Option Addr) (no co : Nat) (li di : Value) (s : InfP.St) (B : List Int) (a : Nat) (sy : Int) (h0 : 0 ≤ sy ∧ sy < 1000) (hl : B.length < 500000000) (hB : BitP.Byt B) (ha : a ≤ 8 * B.length) : Ctr Tryz.prog 67 [.pointer (some ⟨b, 0, none⟩), .int .i64 sy] [Cel b 75 [.pointer (some ⟨bl, 0, none⟩), .int .i64 sz, .int .i64 mo, .slice po no co, .bool s.ended, .int .i64 0, .int .i64 s.kind, .int .i64 (s.left : Int), .bool s.last, li, di, .int .i64 (s.copies : Int), .int .i64 (s.far : Int)], LW bl B a [] 0] (PostE (InfP.lenE B sy a) (fun x v G => v = .int .i64 x.1 ∧ G = [Cel b 75 [.pointer (some ⟨bl, 0, none⟩), .int .i64 sz, .int .i64 mo, .slice po no co, .bool s.ended, .int .i64 0, .int .i64 s.kind, .int .i64 (s.left : Int), .bool s.last, li, di, .int .i64 (s.copies : Int), .int .i64 (s.far : Int)], LW bl B x.2 [] 0]) [MX b bl sz mo]) := by
 refine spec_of [(0, _), (1, _)] Tryz.func67 rfl Tryz.ntmps67 rfl rfl ?_
 intro w0 F
 refine rT TTZiR 5 rfl ?_
 rcases (Classical.em (sy < 29)) with hq | hq
 ·refine rC TTZiR 3 rfl ?_
  refine oV (v_T (v_lss rfl rfl) hq) ?_
  refine o_call (c_must 4) V.b62  rfl .nil rfl ?_
  rintro _ _ ⟨rfl, rfl⟩
  refine rO TTZiR 11 rfl ?_
  refine w_condD rfl (fun h9 => ?_) (fun h9 => ?_)
  ·refine rCs TTZiR 10 rfl (by omega) ?_
   exact pe_ret (x := (3 + sy, a)) (InfP.len_few h0.1 (by omega) ha) (res1 rfl) ⟨rfl, rfl⟩ (sub (rz2 .nil) dd0)
  ·refine rC TTZiR 7 rfl ?_
   refine w_condD rfl (fun h14 => ?_) (fun h14 => ?_)
   ·refine rC TTZiR 8 rfl ?_
    exact pe_ret (x := (258, a)) (InfP.len_top (by omega) ha) (res1 rfl) ⟨rfl, rfl⟩ (sub (rz2 .nil) dd0)
   ·refine rC TTZiR 6 rfl ?_
    refine oV (v_quo rfl rfl (by omega) (quoI (by omega) (by omega) (by omega))) ?_
    refine rOs TTZiR 4 rfl (by omega) ?_
    rcases (Nat.lt_or_ge (8 * B.length) (a + (InfP.lnK sy))) with hx | hx
    ·refine rC TTZiR 1 rfl ?_
     obtain ⟨hk1, hk2, hk3⟩ := InfP.lnK_le (s := sy) (by omega) (by omega)
     have hsh := InfP.shl_small (x := 4 + sy % 4) (n := InfP.lnK sy) (by omega) (by omega) (by omega) rfl
     have hnb := BitP.numL_bound B a (InfP.lnK sy)
     have hnc := BitP.pow24 (show InfP.lnK sy ≤ 24 by omega)
     rw [hk1]
     refine wN [pz 0 [] [1], pz 1 [0] [], pz 3 [1] [], pz 0 [] [5], pz 15 [2, 3] [], pz 31 [4] [], pz 0 [] [0], pz 64 [6] [], pz 192 [7] [], pz 448 [8] [], pz 0 [] [5], pz 1984 [9, 10] [], pz 4095 [5, 11] [], pz 8191 [12] []] [⟨fun y => Cel b 75 [.pointer (some ⟨bl, 0, none⟩), .int .i64 sz, .int .i64 mo, .slice po no co, .bool s.ended, .int .i64 0, .int .i64 s.kind, .int .i64 (s.left : Int), .bool s.last, li, di, .int .i64 (s.copies : Int), .int .i64 (s.far : Int)], none, none, [9, 11]⟩, ⟨fun y => LW bl B a [] 0, none, none, [11]⟩] F V.mixed ?_
     refine nM ?_
     refine nV (fun y hA L => v_rem rfl rfl (by omega) (remI (by omega))) ?_
     refine nV (fun y hA L => v_add rfl rfl wI) ?_
     refine nM ?_
     refine nV (fun y hA L => v_shl (r := (4 + sy % 4) * 2 ^ InfP.lnK sy) rfl rfl (by omega) hsh.1) ?_
     refine nV (fun y hA L => v_add rfl rfl wI) ?_
     refine nM ?_
     refine nN ?_
     refine nG V.f75_0 ?_
     refine nR (fun y FF hA => v_load V.s71 rfl mm0 rfl) ?_
     refine nM ?_
     refine net_pan (undef) _ _ (fun y => rfl) rfl (fun y => rfl) (fun y FF hA => st_callE (c_takeE bl B a [] 0 (InfP.lnK sy) hl hB (by omega) (by omega) (by omega)) V.b56 rfl (.cons rr1 .nil) (by rintro _ _ ⟨rfl, rfl⟩; exact x_pe (InfP.len_short (by omega) (by omega) hx) PE.end_ (fold' (.cons rr1 .nil) (by exact dp1 (M := FF) (F := F)) (fun w0 h hh => mx_close hh)))) ?_
     refine net_pan (.bool true) _ _ (fun y => rfl) rfl (fun y => rfl) (fun y FF hA => (KnN.fact (hA 11 (by decide)) (q := fun _ => False) rfl).elim) ?_
     refine net_pan (.bool true) _ _ (fun y => rfl) rfl (fun y => rfl) (fun y FF hA => (KnN.fact (hA 11 (by decide)) (q := fun _ => False) rfl).elim) ?_
     refine net_nil ?_
     intro y hA
     exact (KnN.fact (hA 11 (by exact Nat.le_of_ble_eq_true rfl)) (q := fun _ => False) rfl).elim
    ·refine rC TTZiR 1 rfl ?_
     obtain ⟨hk1, hk2, hk3⟩ := InfP.lnK_le (s := sy) (by omega) (by omega)
     have hsh := InfP.shl_small (x := 4 + sy % 4) (n := InfP.lnK sy) (by omega) (by omega) (by omega) rfl
     have hnb := BitP.numL_bound B a (InfP.lnK sy)
     have hnc := BitP.pow24 (show InfP.lnK sy ≤ 24 by omega)
     rw [hk1]
     refine wN [pz 0 [] [1], pz 1 [0] [], pz 3 [1] [], pz 0 [] [5], pz 15 [2, 3] [], pz 31 [4] [], pz 0 [] [0], pz 64 [6] [], pz 192 [7] [], pz 448 [8] [], pz 0 [] [5], pz 1984 [9, 10] [], pz 4095 [5, 11] [], pz 8191 [12] []] [⟨fun y => Cel b 75 [.pointer (some ⟨bl, 0, none⟩), .int .i64 sz, .int .i64 mo, .slice po no co, .bool s.ended, .int .i64 0, .int .i64 s.kind, .int .i64 (s.left : Int), .bool s.last, li, di, .int .i64 (s.copies : Int), .int .i64 (s.far : Int)], none, none, [9]⟩, ⟨fun y => LW bl B a [] 0, none, some 11, []⟩, ⟨fun y => LW bl B (a + (InfP.lnK sy)) [] 0, some 11, none, []⟩] F V.mixed ?_
     refine nM ?_
     refine nV (fun y hA L => v_rem rfl rfl (by omega) (remI (by omega))) ?_
     refine nV (fun y hA L => v_add rfl rfl wI) ?_
     refine nM ?_
     refine nV (fun y hA L => v_shl (r := (4 + sy % 4) * 2 ^ InfP.lnK sy) rfl rfl (by omega) hsh.1) ?_
     refine nV (fun y hA L => v_add rfl rfl wI) ?_
     refine nM ?_
     refine nN ?_
     refine nG V.f75_0 ?_
     refine nR (fun y FF hA => v_load V.s71 rfl mm0 rfl) ?_
     refine nM ?_
     refine nE (fun y FF hA => st_callN (Post := [LW bl B (a + (InfP.lnK sy)) [] 0]) (c_take bl B a [] 0 (InfP.lnK sy) hl hB (by omega) (by omega)) V.b56 rfl (rz1 .nil) (fun v G h => by rcases h with ⟨rfl, rfl⟩; exact ⟨rfl, .refl _⟩)) ?_
     refine nV (fun y hA L => v_add rfl rfl wI) ?_
     refine nA ?_
     refine net_nil ?_
     intro y hA
     clear hA
     refine thn_n ?_
     refine w_keep _ (.cons (d := 4) rfl (.nil _)) ?_
     refine w_sub (M := Cel b 75 [.pointer (some ⟨bl, 0, none⟩), .int .i64 sz, .int .i64 mo, .slice po no co, .bool s.ended, .int .i64 0, .int .i64 s.kind, .int .i64 (s.left : Int), .bool s.last, li, di, .int .i64 (s.copies : Int), .int .i64 (s.far : Int)] :: LW bl B (a + (InfP.lnK sy)) [] 0 :: F) (fun _ _ h => h) ?_
     refine rC TTZiR 1 rfl ?_
     exact pe_ret (x := (3 + (4 + sy % 4) * 2 ^ InfP.lnK sy + BitP.numL B a (InfP.lnK sy), a + InfP.lnK sy)) (InfP.len_ok (by omega) (by omega) hx) (res1 rfl) ⟨rfl, rfl⟩ (sub (rz2 .nil) dd0)
 ·refine rC TTZiR 3 rfl ?_
  refine oV (v_F (v_lss rfl rfl) hq) ?_
  refine o_callE (c_mustE 4) V.b62 rfl .nil ?_
  rintro _ _ ⟨rfl, rfl⟩
  refine (thn_p ?_)
  exact pe_pan (InfP.len_no (by omega)) (PE.no (by decide)) (fold' (rz1 .nil) dd1 (fun w0 h hh => mx_close hh))
set_option maxHeartbeats 2000000 in
theorem c_away (b bl : Nat) (sz mo : Int) (po : Option Addr) (no co : Nat) (li : Value) (dd : Nat) (s : InfP.St) (B ds : List Int) (a : Nat) (hE : HuffP.newE ds = 0) (hd : 0 < ds.length) (hl : B.length < 500000000) (hB : BitP.Byt B) (ha : a ≤ 8 * B.length) : Ctr Tryz.prog 68 [.pointer (some ⟨b, 0, none⟩)] [Cel b 75 [.pointer (some ⟨bl, 0, none⟩), .int .i64 sz, .int .i64 mo, .slice po no co, .bool s.ended, .int .i64 0, .int .i64 s.kind, .int .i64 (s.left : Int), .bool s.last, li, (.pointer (some ⟨dd, 0, none⟩)), .int .i64 (s.copies : Int), .int .i64 (s.far : Int)], HC dd ds, LW bl B a [] 0] (PostE (InfP.awayE B ds a) (fun x v G => v = .int .i64 x.1 ∧ G = [Cel b 75 [.pointer (some ⟨bl, 0, none⟩), .int .i64 sz, .int .i64 mo, .slice po no co, .bool s.ended, .int .i64 0, .int .i64 s.kind, .int .i64 (s.left : Int), .bool s.last, li, (.pointer (some ⟨dd, 0, none⟩)), .int .i64 (s.copies : Int), .int .i64 (s.far : Int)], HC dd ds, LW bl B x.2 [] 0]) [MX b bl sz mo]) := by
 refine spec_of [(0, _)] Tryz.func68 rfl Tryz.ntmps68 rfl rfl ?_
 intro w0 F
 have hdl := InfP.code_len hE
 refine rT TTZiR 5 rfl ?_
 rcases (InfP.sym_or (B := B) (ls := ds) (a := a) hE hd) with ⟨e, hs⟩ | ⟨sy, a3, hs, h0, h1, h2, h3⟩
 ·refine rC TTZiR 1 rfl ?_
  refine wN [pz 0 [] [0], pz 1 [0] [], pz 3 [1] [], pz 7 [2] [], pz 0 [] [0], pz 16 [4] [], pz 48 [5] [], pz 112 [6] [], pz 255 [3, 7] [], pz 511 [8] []] [⟨fun y => Cel b 75 [.pointer (some ⟨bl, 0, none⟩), .int .i64 sz, .int .i64 mo, .slice po no co, .bool s.ended, .int .i64 0, .int .i64 s.kind, .int .i64 (s.left : Int), .bool s.last, li, (.pointer (some ⟨dd, 0, none⟩)), .int .i64 (s.copies : Int), .int .i64 (s.far : Int)], none, none, [3, 7, 8]⟩, ⟨fun y => HC dd ds, none, none, [8]⟩, ⟨fun y => LW bl B a [] 0, none, none, [8]⟩] F V.mixed ?_
  refine nM ?_
  refine nN ?_
  refine nG V.f75_10 ?_
  refine nR (fun y FF hA => v_load V.s73 rfl mm0 rfl) ?_
  refine nM ?_
  refine nN ?_
  refine nG V.f75_0 ?_
  refine nR (fun y FF hA => v_load V.s71 rfl mm0 rfl) ?_
  refine net_pan (undef) _ _ (fun y => rfl) rfl (fun y => rfl) (fun y FF hA => st_callE ((c_sym dd ds bl B a [] 0 hE hl hB ha).err hs) V.b66 rfl (.cons rr1 (.cons rr1 .nil)) (by rintro _ _ ⟨hp, rfl⟩; exact x_pe (InfP.away_e hs) hp (fold' (rz1 .nil) (by exact dp0 (M := FF) (F := F)) (fun w0 h hh => mx_close hh)))) ?_
  refine net_pan (.bool true) _ _ (fun y => rfl) rfl (fun y => rfl) (fun y FF hA => (KnN.fact (hA 8 (by decide)) (q := fun _ => False) rfl).elim) ?_
  refine net_nil ?_
  intro y hA
  exact (KnN.fact (hA 8 (by exact Nat.le_of_ble_eq_true rfl)) (q := fun _ => False) rfl).elim
 ·refine rC TTZiR 1 rfl ?_
  refine wN [pz 0 [] [0], pz 1 [0] [], pz 3 [1] [], pz 7 [2] [], pz 0 [] [0], pz 16 [4] [], pz 48 [5] [], pz 112 [6] [], pz 255 [3, 7] [], pz 511 [8] []] [⟨fun y => Cel b 75 [.pointer (some ⟨bl, 0, none⟩), .int .i64 sz, .int .i64 mo, .slice po no co, .bool s.ended, .int .i64 0, .int .i64 s.kind, .int .i64 (s.left : Int), .bool s.last, li, (.pointer (some ⟨dd, 0, none⟩)), .int .i64 (s.copies : Int), .int .i64 (s.far : Int)], none, none, [3, 7]⟩, ⟨fun y => HC dd ds, none, some 8, []⟩, ⟨fun y => LW bl B a [] 0, none, some 8, []⟩, ⟨fun y => HC dd ds, some 8, none, []⟩, ⟨fun y => LW bl B a3 [] 0, some 8, none, []⟩] F V.mixed ?_
  refine nM ?_
  refine nN ?_
  refine nG V.f75_10 ?_
  refine nR (fun y FF hA => v_load V.s73 rfl mm0 rfl) ?_
  refine nM ?_
  refine nN ?_
  refine nG V.f75_0 ?_
  refine nR (fun y FF hA => v_load V.s71 rfl mm0 rfl) ?_
  refine nE (fun y FF hA => st_callN (Post := [HC dd ds, LW bl B a3 [] 0]) ((c_sym dd ds bl B a [] 0 hE hl hB ha).ok hs) V.b66 rfl (rz2 .nil) (fun v G h => by rcases h with ⟨rfl, rfl⟩; exact ⟨rfl, .refl _⟩)) ?_
  refine nA ?_
  refine net_nil ?_
  intro y hA
  clear hA
  refine thn_n ?_
  refine w_keep _ (.cons (d := 0) rfl (.cons (d := 3) rfl (.nil _))) ?_
  refine w_sub (M := Cel b 75 [.pointer (some ⟨bl, 0, none⟩), .int .i64 sz, .int .i64 mo, .slice po no co, .bool s.ended, .int .i64 0, .int .i64 s.kind, .int .i64 (s.left : Int), .bool s.last, li, (.pointer (some ⟨dd, 0, none⟩)), .int .i64 (s.copies : Int), .int .i64 (s.far : Int)] :: HC dd ds :: LW bl B a3 [] 0 :: F) (fun _ _ h => h) ?_
  rcases (Classical.em (sy < 30)) with hq | hq
  ·refine rC TTZiR 3 rfl ?_
   refine oV (v_T (v_lss rfl rfl) hq) ?_
   refine o_call (c_must 4) V.b62  rfl .nil rfl ?_
   rintro _ _ ⟨rfl, rfl⟩
   refine rO TTZiR 9 rfl ?_
   refine w_condD rfl (fun h18 => ?_) (fun h18 => ?_)
   ·refine rCs TTZiR 9 rfl (by omega) ?_
    exact pe_ret (x := (1 + sy, a3)) (InfP.away_few hs h0 (by omega) h3) (res1 rfl) ⟨rfl, rfl⟩ (sub (rz3 .nil) dd0)
   ·refine rC TTZiR 5 rfl ?_
    refine oV (v_quo rfl rfl (by omega) (quoI (by omega) (by omega) (by omega))) ?_
    refine rOs TTZiR 4 rfl (by omega) ?_
    rcases (Nat.lt_or_ge (8 * B.length) (a3 + (InfP.dsK sy))) with hx | hx
    ·refine rC TTZiR 1 rfl ?_
     obtain ⟨hk1, hk2, hk3⟩ := InfP.dsK_le (s := sy) (by omega) (by omega)
     have hsh := InfP.shl_small (x := 2 + sy % 2) (n := InfP.dsK sy) (by omega) (by omega) (by omega) rfl
     have hnb := BitP.numL_bound B a3 (InfP.dsK sy)
     have hnc := BitP.pow24 (show InfP.dsK sy ≤ 24 by omega)
     rw [hk1]
     refine wN [pz 0 [] [3], pz 1 [0] [], pz 3 [1] [], pz 0 [] [4], pz 15 [2, 3] [], pz 31 [4] [], pz 0 [] [0], pz 64 [6] [], pz 192 [7] [], pz 448 [8] [], pz 0 [] [4], pz 1984 [9, 10] [], pz 4095 [5, 11] [], pz 8191 [12] []] [⟨fun y => Cel b 75 [.pointer (some ⟨bl, 0, none⟩), .int .i64 sz, .int .i64 mo, .slice po no co, .bool s.ended, .int .i64 0, .int .i64 s.kind, .int .i64 (s.left : Int), .bool s.last, li, (.pointer (some ⟨dd, 0, none⟩)), .int .i64 (s.copies : Int), .int .i64 (s.far : Int)], none, none, [9, 11]⟩, ⟨fun y => HC dd ds, none, none, []⟩, ⟨fun y => LW bl B a3 [] 0, none, none, [11]⟩] F V.mixed ?_
     refine nM ?_
     refine nV (fun y hA L => v_rem rfl rfl (by omega) (remI (by omega))) ?_
     refine nV (fun y hA L => v_add rfl rfl wI) ?_
     refine nM ?_
     refine nV (fun y hA L => v_shl (r := (2 + sy % 2) * 2 ^ InfP.dsK sy) rfl rfl (by omega) hsh.1) ?_
     refine nV (fun y hA L => v_add rfl rfl wI) ?_
     refine nM ?_
     refine nN ?_
     refine nG V.f75_0 ?_
     refine nR (fun y FF hA => v_load V.s71 rfl mm0 rfl) ?_
     refine nM ?_
     refine net_pan (undef) _ _ (fun y => rfl) rfl (fun y => rfl) (fun y FF hA => st_callE (c_takeE bl B a3 [] 0 (InfP.dsK sy) hl hB (by omega) (by omega) (by omega)) V.b56 rfl (.cons rr1 .nil) (by rintro _ _ ⟨rfl, rfl⟩; exact x_pe (InfP.away_short hs (by omega) (by omega) hx) PE.end_ (fold' (.cons rr1 .nil) (by exact dp1 (M := FF) (F := F)) (fun w0 h hh => mx_close hh)))) ?_
     refine net_pan (.bool true) _ _ (fun y => rfl) rfl (fun y => rfl) (fun y FF hA => (KnN.fact (hA 11 (by decide)) (q := fun _ => False) rfl).elim) ?_
     refine net_pan (.bool true) _ _ (fun y => rfl) rfl (fun y => rfl) (fun y FF hA => (KnN.fact (hA 11 (by decide)) (q := fun _ => False) rfl).elim) ?_
     refine net_nil ?_
     intro y hA
     exact (KnN.fact (hA 11 (by exact Nat.le_of_ble_eq_true rfl)) (q := fun _ => False) rfl).elim
    ·refine rC TTZiR 1 rfl ?_
     obtain ⟨hk1, hk2, hk3⟩ := InfP.dsK_le (s := sy) (by omega) (by omega)
     have hsh := InfP.shl_small (x := 2 + sy % 2) (n := InfP.dsK sy) (by omega) (by omega) (by omega) rfl
     have hnb := BitP.numL_bound B a3 (InfP.dsK sy)
     have hnc := BitP.pow24 (show InfP.dsK sy ≤ 24 by omega)
     rw [hk1]
     refine wN [pz 0 [] [3], pz 1 [0] [], pz 3 [1] [], pz 0 [] [4], pz 15 [2, 3] [], pz 31 [4] [], pz 0 [] [0], pz 64 [6] [], pz 192 [7] [], pz 448 [8] [], pz 0 [] [4], pz 1984 [9, 10] [], pz 4095 [5, 11] [], pz 8191 [12] []] [⟨fun y => Cel b 75 [.pointer (some ⟨bl, 0, none⟩), .int .i64 sz, .int .i64 mo, .slice po no co, .bool s.ended, .int .i64 0, .int .i64 s.kind, .int .i64 (s.left : Int), .bool s.last, li, (.pointer (some ⟨dd, 0, none⟩)), .int .i64 (s.copies : Int), .int .i64 (s.far : Int)], none, none, [9]⟩, ⟨fun y => HC dd ds, none, none, []⟩, ⟨fun y => LW bl B a3 [] 0, none, some 11, []⟩, ⟨fun y => LW bl B (a3 + (InfP.dsK sy)) [] 0, some 11, none, []⟩] F V.mixed ?_
     refine nM ?_
     refine nV (fun y hA L => v_rem rfl rfl (by omega) (remI (by omega))) ?_
     refine nV (fun y hA L => v_add rfl rfl wI) ?_
     refine nM ?_
     refine nV (fun y hA L => v_shl (r := (2 + sy % 2) * 2 ^ InfP.dsK sy) rfl rfl (by omega) hsh.1) ?_
     refine nV (fun y hA L => v_add rfl rfl wI) ?_
     refine nM ?_
     refine nN ?_
     refine nG V.f75_0 ?_
     refine nR (fun y FF hA => v_load V.s71 rfl mm0 rfl) ?_
     refine nM ?_
     refine nE (fun y FF hA => st_callN (Post := [LW bl B (a3 + (InfP.dsK sy)) [] 0]) (c_take bl B a3 [] 0 (InfP.dsK sy) hl hB (by omega) (by omega)) V.b56 rfl (rz1 .nil) (fun v G h => by rcases h with ⟨rfl, rfl⟩; exact ⟨rfl, .refl _⟩)) ?_
     refine nV (fun y hA L => v_add rfl rfl wI) ?_
     refine nA ?_
     refine net_nil ?_
     intro y hA
     clear hA
     refine thn_n ?_
     refine w_keep _ (.cons (d := 2) rfl (.nil _)) ?_
     refine w_sub (M := Cel b 75 [.pointer (some ⟨bl, 0, none⟩), .int .i64 sz, .int .i64 mo, .slice po no co, .bool s.ended, .int .i64 0, .int .i64 s.kind, .int .i64 (s.left : Int), .bool s.last, li, (.pointer (some ⟨dd, 0, none⟩)), .int .i64 (s.copies : Int), .int .i64 (s.far : Int)] :: HC dd ds :: LW bl B (a3 + (InfP.dsK sy)) [] 0 :: F) (fun _ _ h => h) ?_
     refine rC TTZiR 1 rfl ?_
     exact pe_ret (x := (1 + (2 + sy % 2) * 2 ^ InfP.dsK sy + BitP.numL B a3 (InfP.dsK sy), a3 + InfP.dsK sy)) (InfP.away_ok hs (by omega) (by omega) hx) (res1 rfl) ⟨rfl, rfl⟩ (sub (rz3 .nil) dd0)
  ·refine rC TTZiR 3 rfl ?_
   refine oV (v_F (v_lss rfl rfl) hq) ?_
   refine o_callE (c_mustE 4) V.b62 rfl .nil ?_
   rintro _ _ ⟨rfl, rfl⟩
   refine (thn_p ?_)
   exact pe_pan (InfP.away_no hs (by omega)) (PE.no (by decide)) (fold' (rz1 .nil) dd2 (fun w0 h hh => mx_close hh))
set_option maxHeartbeats 4000000 in
theorem c_begin (b bl : Nat) (sz mo : Int) (li di : Value) (s : InfP.St) (B : List Int) (hl : B.length < 500000000) (hB : BitP.Byt B) (ha : s.at_ ≤ 8 * B.length) : Ctr Tryz.prog 53 [.pointer (some ⟨b, 0, none⟩)] [MS b bl sz mo li di s, LW bl B s.at_ [] 0] (PostE (InfP.begin_ B s) (fun s2 v G => v = .tuple #[] ∧ G = [MM b bl sz mo B s2]) [MX b bl sz mo]) := by
 refine spec_of [(0, _)] Tryz.func53 rfl Tryz.ntmps53 rfl rfl ?_
 intro w0 F
 refine w_opn (fun h hh => hh) ?_
 rintro ⟨po, co⟩ _
 dsimp only
 have hn1 := BitP.numL_bound B (InfP.alg (s.at_ + 3)) 16
 have hn2 := BitP.numL_bound B ((InfP.alg (s.at_ + 3)) + 16) 16
 have hal : InfP.alg (s.at_ + 3) = (s.at_ + 3 + 7) / 8 * 8 := InfP.alg_eq _
 rcases (Nat.lt_or_ge (8 * B.length) (s.at_ + 1)) with hx0 | hx0
 ·refine rT TTZiR 6 rfl ?_
  refine oV (v_load V.s71 rfl mm0 rfl) ?_
  refine o_callE (c_takeE bl B s.at_ [] 0 1 hl hB (by omega) (by omega) (by omega)) V.b56 rfl (.cons rr2 .nil) ?_
  rintro _ _ ⟨rfl, rfl⟩
  refine (thn_p ?_)
  exact pe_pan (InfP.beg_1 (by omega)) PE.end_ (fold' (.cons rr1 .nil) dd2 (fun w0 h hh => mx_close hh))
 ·refine rT TTZiR 6 rfl ?_
  refine oV (v_load V.s71 rfl mm0 rfl) ?_
  refine o_call (c_take bl B s.at_ [] 0 1 hl hB (by omega) (by omega)) V.b56  rfl (.cons rr2 .nil) rfl ?_
  rintro _ _ ⟨rfl, rfl⟩
  refine rO TTZiR 3 rfl ?_
  refine o_eff (v_store V.s4 rfl rfl rfl (by exact pp1) (by exact Nat.le_of_ble_eq_true rfl) rfl) ?_
  refine rO TTZiR 2 rfl ?_
  rcases (Nat.lt_or_ge (8 * B.length) (s.at_ + 3)) with hx1 | hx1
  ·refine rC TTZiR 6 rfl ?_
   refine oV (v_load V.s71 rfl mm1 rfl) ?_
   refine o_callE (c_takeE bl B (s.at_ + 1) [] 0 2 hl hB (by omega) (by omega) (by omega)) V.b56 rfl (rz1 .nil) ?_
   rintro _ _ ⟨rfl, rfl⟩
   refine (thn_p ?_)
   exact pe_pan (InfP.beg_1 (by omega)) PE.end_ (fold' (.cons rr1 .nil) dd2 (fun w0 h hh => mx_close hh))
  ·refine rC TTZiR 6 rfl ?_
   refine oV (v_load V.s71 rfl mm1 rfl) ?_
   refine o_call (c_take bl B (s.at_ + 1) [] 0 2 hl hB (by omega) (by omega)) V.b56  rfl (rz1 .nil) rfl ?_
   rintro _ _ ⟨rfl, rfl⟩
   refine rO TTZiR 2 rfl ?_
   refine o_eff (v_store V.s3 rfl rfl rfl (by exact pp1) (by exact Nat.le_of_ble_eq_true rfl) rfl) ?_
   refine rO TTZiR 7 rfl ?_
   refine oV (v_load V.s3 rfl mm1 rfl) ?_
   refine rO TTZiR 9 rfl ?_
   refine w_condD rfl (fun h26 => ?_) (fun h26 => ?_)
   ·refine rC TTZiR 5 rfl ?_
    refine oV (v_load V.s71 rfl mm1 rfl) ?_
    refine o_call (c_align bl B (s.at_ + 3) [] 0 hl (by omega)) V.b63  rfl (rz1 .nil) rfl ?_
    rintro _ _ ⟨rfl, rfl⟩
    refine rO TTZiR 2 rfl ?_
    rcases (InfP.room2 B.length (InfP.alg (s.at_ + 3))) with hx | ⟨hx2, hx⟩ | hx
    ·refine rC TTZiR 1 rfl ?_
     have hk0 : (BitP.numL B (s.at_ + 1) 2) = 0 := by omega
     refine wN [pz 0 [] [0], pz 1 [0] [], pz 3 [1] [], pz 7 [2] [], pz 15 [3] [], pz 0 [] [0], pz 32 [5] [], pz 96 [6] [], pz 224 [7] [], pz 511 [8] [], pz 1023 [4] [], pz 2047 [9] []] [⟨fun y => LW bl B (InfP.alg (s.at_ + 3)) [] 0, none, none, [4]⟩, ⟨fun y => Cel b 75 [.pointer (some ⟨bl, 0, none⟩), .int .i64 sz, .int .i64 mo, .slice po s.out.length co, .bool s.ended, .int .i64 0, .int .i64 (BitP.numL B (s.at_ + 1) 2), .int .i64 (s.left : Int), .bool (decide (BitP.numL B s.at_ 1 = 1)), li, di, .int .i64 (s.copies : Int), .int .i64 (s.far : Int)], none, none, [3, 4, 8]⟩, ⟨fun y => Row U5 po s.out.length co s.out, none, none, []⟩] F V.mixed ?_
     refine nM ?_
     refine nN ?_
     refine nG V.f75_0 ?_
     refine nR (fun y FF hA => v_load V.s71 rfl mm0 rfl) ?_
     refine net_pan (undef) _ _ (fun y => rfl) rfl (fun y => rfl) (fun y FF hA => st_callE (c_takeE bl B (InfP.alg (s.at_ + 3)) [] 0 16 hl hB (by omega) (by omega) (by omega)) V.b56 rfl (rz1 .nil) (by rintro _ _ ⟨rfl, rfl⟩; exact x_pe (InfP.beg_0s hx1 hk0 (by omega)) PE.end_ (fold' (.cons rr1 .nil) (by exact dp1 (M := FF) (F := F)) (fun w0 h hh => mx_close hh)))) ?_
     refine nM ?_
     refine nN ?_
     refine nG V.f75_0 ?_
     refine nR (fun y FF hA => v_load V.s71 rfl mm0 rfl) ?_
     refine net_pan (.bool true) _ _ (fun y => rfl) rfl (fun y => rfl) (fun y FF hA => (KnN.fact (hA 4 (by decide)) (q := fun _ => False) rfl).elim) ?_
     refine net_pan (.bool true) _ _ (fun y => rfl) rfl (fun y => rfl) (fun y FF hA => (KnN.fact (hA 4 (by decide)) (q := fun _ => False) rfl).elim) ?_
     refine net_pan (.bool true) _ _ (fun y => rfl) rfl (fun y => rfl) (fun y FF hA => (KnN.fact (hA 4 (by decide)) (q := fun _ => False) rfl).elim) ?_
     refine net_nil ?_
     intro y hA
     exact (KnN.fact (hA 4 (by exact Nat.le_of_ble_eq_true rfl)) (q := fun _ => False) rfl).elim
    ·refine rC TTZiR 1 rfl ?_
     have hk0 : (BitP.numL B (s.at_ + 1) 2) = 0 := by omega
     refine wN [pz 0 [] [0], pz 1 [0] [], pz 3 [1] [], pz 7 [2] [], pz 15 [3] [], pz 0 [] [0], pz 32 [5] [], pz 96 [6] [], pz 224 [7] [], pz 511 [8] [], pz 1023 [4] [], pz 2047 [9] []] [⟨fun y => LW bl B (InfP.alg (s.at_ + 3)) [] 0, none, some 4, []⟩, ⟨fun y => Cel b 75 [.pointer (some ⟨bl, 0, none⟩), .int .i64 sz, .int .i64 mo, .slice po s.out.length co, .bool s.ended, .int .i64 0, .int .i64 (BitP.numL B (s.at_ + 1) 2), .int .i64 (s.left : Int), .bool (decide (BitP.numL B s.at_ 1 = 1)), li, di, .int .i64 (s.copies : Int), .int .i64 (s.far : Int)], none, none, [3, 8, 9]⟩, ⟨fun y => Row U5 po s.out.length co s.out, none, none, []⟩, ⟨fun y => LW bl B ((InfP.alg (s.at_ + 3)) + 16) [] 0, some 4, none, [9]⟩] F V.mixed ?_
     refine nM ?_
     refine nN ?_
     refine nG V.f75_0 ?_
     refine nR (fun y FF hA => v_load V.s71 rfl mm0 rfl) ?_
     refine nE (fun y FF hA => st_callN (Post := [LW bl B ((InfP.alg (s.at_ + 3)) + 16) [] 0]) (c_take bl B (InfP.alg (s.at_ + 3)) [] 0 16 hl hB (by omega) (by omega)) V.b56 rfl (rz1 .nil) (fun v G h => by rcases h with ⟨rfl, rfl⟩; exact ⟨rfl, .refl _⟩)) ?_
     refine nM ?_
     refine nN ?_
     refine nG V.f75_0 ?_
     refine nR (fun y FF hA => v_load V.s71 rfl mm0 rfl) ?_
     refine net_pan (undef) _ _ (fun y => rfl) rfl (fun y => rfl) (fun y FF hA => st_callE (c_takeE bl B ((InfP.alg (s.at_ + 3)) + 16) [] 0 16 hl hB (by omega) (by omega) (by omega)) V.b56 rfl (.cons rr1 .nil) (by rintro _ _ ⟨rfl, rfl⟩; exact x_pe (InfP.beg_0s hx1 hk0 (by omega)) PE.end_ (fold' (.cons rr1 .nil) (by exact dp1 (M := FF) (F := F)) (fun w0 h hh => mx_close hh)))) ?_
     refine net_pan (.bool true) _ _ (fun y => rfl) rfl (fun y => rfl) (fun y FF hA => (KnN.fact (hA 9 (by decide)) (q := fun _ => False) rfl).elim) ?_
     refine net_pan (.bool true) _ _ (fun y => rfl) rfl (fun y => rfl) (fun y FF hA => (KnN.fact (hA 9 (by decide)) (q := fun _ => False) rfl).elim) ?_
     refine net_nil ?_
     intro y hA
     exact (KnN.fact (hA 9 (by exact Nat.le_of_ble_eq_true rfl)) (q := fun _ => False) rfl).elim
    ·refine rC TTZiR 1 rfl ?_
     have hk0 : (BitP.numL B (s.at_ + 1) 2) = 0 := by omega
     refine wN [pz 0 [] [0], pz 1 [0] [], pz 3 [1] [], pz 7 [2] [], pz 15 [3] [], pz 0 [] [0], pz 32 [5] [], pz 96 [6] [], pz 224 [7] [], pz 511 [8] [], pz 1023 [4] [], pz 2047 [9] []] [⟨fun y => LW bl B (InfP.alg (s.at_ + 3)) [] 0, none, some 4, []⟩, ⟨fun y => Cel b 75 [.pointer (some ⟨bl, 0, none⟩), .int .i64 sz, .int .i64 mo, .slice po s.out.length co, .bool s.ended, .int .i64 0, .int .i64 (BitP.numL B (s.at_ + 1) 2), .int .i64 (s.left : Int), .bool (decide (BitP.numL B s.at_ 1 = 1)), li, di, .int .i64 (s.copies : Int), .int .i64 (s.far : Int)], none, none, [3, 8]⟩, ⟨fun y => Row U5 po s.out.length co s.out, none, none, []⟩, ⟨fun y => LW bl B ((InfP.alg (s.at_ + 3)) + 16) [] 0, some 4, some 9, []⟩, ⟨fun y => LW bl B ((InfP.alg (s.at_ + 3)) + 32) [] 0, some 9, none, []⟩] F V.mixed ?_
     refine nM ?_
     refine nN ?_
     refine nG V.f75_0 ?_
     refine nR (fun y FF hA => v_load V.s71 rfl mm0 rfl) ?_
     refine nE (fun y FF hA => st_callN (Post := [LW bl B ((InfP.alg (s.at_ + 3)) + 16) [] 0]) (c_take bl B (InfP.alg (s.at_ + 3)) [] 0 16 hl hB (by omega) (by omega)) V.b56 rfl (rz1 .nil) (fun v G h => by rcases h with ⟨rfl, rfl⟩; exact ⟨rfl, .refl _⟩)) ?_
     refine nM ?_
     refine nN ?_
     refine nG V.f75_0 ?_
     refine nR (fun y FF hA => v_load V.s71 rfl mm0 rfl) ?_
     refine nE (fun y FF hA => st_callN (Post := [LW bl B ((InfP.alg (s.at_ + 3)) + 32) [] 0]) (c_take bl B ((InfP.alg (s.at_ + 3)) + 16) [] 0 16 hl hB (by omega) (by omega)) V.b56 rfl (rz1 .nil) (fun v G h => by rcases h with ⟨rfl, rfl⟩; exact ⟨rfl, .refl _⟩)) ?_
     iterate 2 refine nA ?_
     refine net_nil ?_
     intro y hA
     clear hA
     refine thn_n ?_
     refine w_keep _ (.cons (d := 0) rfl (.cons (d := 2) rfl (.cons (d := 3) rfl (.nil _)))) ?_
     refine w_sub (M := Cel b 75 [.pointer (some ⟨bl, 0, none⟩), .int .i64 sz, .int .i64 mo, .slice po s.out.length co, .bool s.ended, .int .i64 0, .int .i64 (BitP.numL B (s.at_ + 1) 2), .int .i64 (s.left : Int), .bool (decide (BitP.numL B s.at_ 1 = 1)), li, di, .int .i64 (s.copies : Int), .int .i64 (s.far : Int)] :: Row U5 po s.out.length co s.out :: LW bl B ((InfP.alg (s.at_ + 3)) + 32) [] 0 :: F) (fun _ _ h => h) ?_
     rcases (Classical.em ((BitP.numL B (InfP.alg (s.at_ + 3)) 16) = 65535 - (BitP.numL B ((InfP.alg (s.at_ + 3)) + 16) 16))) with hm | hm
     ·refine rC TTZiR 4 rfl ?_
      refine oV (v_xor (r := (IntKind.i64.wrap ((BitVec.ofInt IntKind.i64.bits (BitP.numL B (InfP.alg (s.at_ + 3)) 16) ^^^ BitVec.ofInt IntKind.i64.bits (BitP.numL B ((InfP.alg (s.at_ + 3)) + 16) 16)).toNat : Int))) rfl rfl rfl) ?_
      refine oV (v_T (v_eql rfl rfl) ((InfP.xor16 hn1 hn2).2 hm)) ?_
      refine o_call (c_must 4) V.b62  rfl .nil rfl ?_
      rintro _ _ ⟨rfl, rfl⟩
      refine rO TTZiR 7 rfl ?_
      refine o_eff (v_store V.s3 rfl rfl rfl (by exact pp0) (by exact Nat.le_of_ble_eq_true rfl) rfl) ?_
      refine rO TTZiR 2 rfl ?_
      rw [hk0, show (BitP.numL B (InfP.alg (s.at_ + 3)) 16) = ((((BitP.numL B (InfP.alg (s.at_ + 3)) 16)).toNat : Nat) : Int) from (Int.toNat_of_nonneg hn1.1).symm]
      exact pe_end (x := { s with at_ := InfP.alg (s.at_ + 3) + 32, kind := 0, left := (BitP.numL B (InfP.alg (s.at_ + 3)) 16).toNat, last := (decide (BitP.numL B s.at_ 1 = 1)) }) (InfP.beg_0y hx1 hk0 (by omega) hm) res0 ⟨rfl, rfl⟩ ((fold' (rz2 .nil) .refl (fun w0 h hh => ms_close (s := { s with at_ := InfP.alg (s.at_ + 3) + 32, kind := 0, left := (BitP.numL B (InfP.alg (s.at_ + 3)) 16).toNat, last := (decide (BitP.numL B s.at_ 1 = 1)) }) rfl hh)).trans (fold' (rz2 .nil) dd0 (fun w0 h hh => mm_close0 (s := { s with at_ := InfP.alg (s.at_ + 3) + 32, kind := 0, left := (BitP.numL B (InfP.alg (s.at_ + 3)) 16).toNat, last := (decide (BitP.numL B s.at_ 1 = 1)) }) (Int.le_refl _) hh)))
     ·refine rC TTZiR 4 rfl ?_
      refine oV (v_xor (r := (IntKind.i64.wrap ((BitVec.ofInt IntKind.i64.bits (BitP.numL B (InfP.alg (s.at_ + 3)) 16) ^^^ BitVec.ofInt IntKind.i64.bits (BitP.numL B ((InfP.alg (s.at_ + 3)) + 16) 16)).toNat : Int))) rfl rfl rfl) ?_
      refine oV (v_F (v_eql rfl rfl) (fun h => hm ((InfP.xor16 hn1 hn2).1 h))) ?_
      refine o_callE (c_mustE 4) V.b62 rfl .nil ?_
      rintro _ _ ⟨rfl, rfl⟩
      refine (thn_p (blk_p ?_))
      exact pe_pan (InfP.beg_0n hx1 hk0 (by omega) hm) (PE.no (by decide)) (fold' (rz1 .nil) dd2 (fun w0 h hh => mx_close hh))
   ·refine rC TTZiR 6 rfl ?_
    refine w_condD rfl (fun h52 => ?_) (fun h52 => ?_)
    ·refine rC TTZiR 2 rfl ?_
     refine o_call (c_plain b bl sz mo po s.out.length co li di { s with kind := (BitP.numL B (s.at_ + 1) 2), last := (decide (BitP.numL B s.at_ 1 = 1)) }) V.b64  rfl (.cons rr1 .nil) rfl ?_
     rintro _ _ ⟨lb, db, rfl, rfl⟩
     refine rO TTZiR 2 rfl ?_
     have hk1 : (BitP.numL B (s.at_ + 1) 2) = 1 := by omega
     rw [hk1]
     exact pe_end (x := { s with at_ := s.at_ + 3, kind := 1, last := (decide (BitP.numL B s.at_ 1 = 1)), lits := InfP.fixL, dist := InfP.fixD }) (InfP.beg_f hx1 hk1) res0 ⟨rfl, rfl⟩ ((fold' (rz1 (.cons rr3 .nil)) .refl (fun w0 h hh => ms_close (s := { s with at_ := s.at_ + 3, kind := 1, last := (decide (BitP.numL B s.at_ 1 = 1)), lits := InfP.fixL, dist := InfP.fixD }) rfl hh)).trans (fold' (rz1 (.cons rr2 (.cons rr0 (.cons rr0 .nil)))) dd0 (fun w0 h hh => mm_closeC (s := { s with at_ := s.at_ + 3, kind := 1, last := (decide (BitP.numL B s.at_ 1 = 1)), lits := InfP.fixL, dist := InfP.fixD }) hh)))
    ·refine rC TTZiR 6 rfl ?_
     refine w_condD rfl (fun h56 => ?_) (fun h56 => ?_)
     ·rcases (InfP.ex_or (InfP.told B (s.at_ + 3))) with ⟨e, ht⟩ | ⟨⟨x3, ll, dl⟩, ht⟩
      ·refine rC TTZiR 2 rfl ?_
       refine o_callE ((c_told b bl sz mo po s.out.length co li di { s with kind := (BitP.numL B (s.at_ + 1) 2), last := (decide (BitP.numL B s.at_ 1 = 1)) } B (s.at_ + 3) hl hB (by omega)).err ht) V.b65 rfl (.cons rr1 (rz1 .nil)) ?_
       rintro _ _ ⟨hp, rfl⟩
       refine (blk_p ?_)
       exact pe_pan (InfP.beg_dn hx1 (by omega) ht) hp (sub (rz1 .nil) dd1)
      ·refine rC TTZiR 2 rfl ?_
       refine o_call ((c_told b bl sz mo po s.out.length co li di { s with kind := (BitP.numL B (s.at_ + 1) 2), last := (decide (BitP.numL B s.at_ 1 = 1)) } B (s.at_ + 3) hl hB (by omega)).ok ht) V.b65  rfl (.cons rr1 (rz1 .nil)) rfl ?_
       rintro _ _ ⟨lb, db, rfl, rfl⟩
       refine rO TTZiR 2 rfl ?_
       have hk2 : (BitP.numL B (s.at_ + 1) 2) = 2 := by omega
       rw [hk2]
       exact pe_end (x := { s with at_ := x3, kind := 2, last := (decide (BitP.numL B s.at_ 1 = 1)), lits := ll, dist := dl }) (InfP.beg_dy hx1 hk2 ht) res0 ⟨rfl, rfl⟩ ((fold' (rz1 (.cons rr3 .nil)) .refl (fun w0 h hh => ms_close (s := { s with at_ := x3, kind := 2, last := (decide (BitP.numL B s.at_ 1 = 1)), lits := ll, dist := dl }) rfl hh)).trans (fold' (rz4 .nil) dd0 (fun w0 h hh => mm_closeC (s := { s with at_ := x3, kind := 2, last := (decide (BitP.numL B s.at_ 1 = 1)), lits := ll, dist := dl }) hh)))
     ·refine w_region ?_
      refine o_callE (c_mustE 4) V.b62 rfl .nil ?_
      rintro _ _ ⟨rfl, rfl⟩
      refine (blk_p ?_)
      exact pe_pan (InfP.beg_no hx1 (by omega) (by omega) (by omega)) (PE.no (by decide)) (fold' (.cons rr1 .nil) dd2 (fun w0 h hh => mx_close hh))
end Go.Proofs.YtmbljkghkcgejaaGreat

/- Steps of the proof: the walks of the functions that the statement reaches; printed by a program of ours. -/
import Derived.Test.YtoplcgkafaoafaaM36
import Derived.Test.YtoplcgkafaoafaaM37
import Derived.Test.YtoplcgkafaoafaaM38
/-
 Steps of the proof: walks of functions that the statement reaches; printed by a program of ours.
-/
namespace Go.Proofs.Ytoplcgkafaoafaa
open Go.Sl 
set_option linter.unusedVariables false
set_option linter.unusedSimpArgs false

attribute [local irreducible] HuffP.newE HuffP.tk HuffP.ord HuffP.cntL HuffP.words HuffP.mostL InfP.frs InfP.toldC InfP.toldN InfP.toldA InfP.hL InfP.hD InfP.hC InfP.lnGo InfP.told InfP.fixL InfP.codeE InfP.rep


abbrev P2 : Ec (Int × Int) := ⟨92, 2, fun x => [.int .i64 x.1, .int .i64 x.2], (0, 0), fun _ => rfl, fun _ => rfl⟩
theorem c_codeY (p : Option Addr) (n cap : Nat) (ls : List Int) (R : HProp) (hn : n = ls.length) (hR : ∀ w0 h, R w0 h → RdR I3 p ls.length ls w0 h) (hE : HuffP.newE ls = 0) : Ctr Try.prog 57 [.slice p n cap] [R] (Ret fun v G => ∃ b, v = .pointer (some ⟨b, 0, none⟩) ∧ G = [HC b ls, R]) :=
 (c_code p n cap ls R hn hR).ok (x := ()) (by unfold InfP.codeE; rw [if_pos hE])
theorem c_codeX (p : Option Addr) (n cap : Nat) (ls : List Int) (R : HProp) (hn : n = ls.length) (hR : ∀ w0 h, R w0 h → RdR I3 p ls.length ls w0 h) (hE : HuffP.newE ls ≠ 0) : Ctr Try.prog 57 [.slice p n cap] [R] (Pan fun ch G => PE 4 ch ∧ G = []) :=
 (c_code p n cap ls R hn hR).err (by unfold InfP.codeE; rw [if_neg hE])
theorem c_rowI (x n : Int) (hn : 0 ≤ n ∧ n < 1000000) : Ctr Try.prog 56 [.int .i64 x, .int .i64 n] [] (Ret fun v G => ∃ p c, v = .slice p n.toNat c ∧ G = [Row I3 p n.toNat c (List.replicate n.toNat x)]) := by
 have h := c_row x n.toNat (by omega)
 rw [Int.toNat_of_nonneg hn.1] at h
 exact h


set_option maxRecDepth 100000 in
theorem c_plain (b bl : Nat) (sz mo : Int) (po : Option Addr) (no co : Nat) (li di : Value) (s : InfP.St) : Ctr Try.prog 49 [.pointer (some ⟨b, 0, none⟩)] [Cel b 67 [.pointer (some ⟨bl, 0, none⟩), .int .i64 sz, .int .i64 mo, .slice po no co, .bool s.ended, .int .i64 0, .int .i64 s.kind, .int .i64 (s.left : Int), .bool s.last, li, di, .int .i64 (s.copies : Int), .int .i64 (s.far : Int)]] (Ret fun v G => ∃ l d, v = .tuple #[] ∧ G = [Cel b 67 [.pointer (some ⟨bl, 0, none⟩), .int .i64 sz, .int .i64 mo, .slice po no co, .bool s.ended, .int .i64 0, .int .i64 s.kind, .int .i64 (s.left : Int), .bool s.last, (.pointer (some ⟨l, 0, none⟩)), (.pointer (some ⟨d, 0, none⟩)), .int .i64 (s.copies : Int), .int .i64 (s.far : Int)], HC l InfP.fixL, HC d InfP.fixD]) := by
 refine spec_of [(0, _)] Try.func49 rfl Try.ntmps49 rfl rfl ?_
 intro w0 F
 refine w_seq ?_
 refine w_region ?_
 refine o_val (v_assign rfl) rfl ?_
 refine o_nil ?_
 refine thn_n ?_
 refine w_seq ?_
 refine w_seq ?_
 refine w_region ?_
 refine o_val (v_buildA V.ar92 V.z92 rfl (cs := [_, _]) rfl) rfl ?_
 refine o_val (v_buildA V.ar92 V.z92 rfl (cs := [_, _]) rfl) rfl ?_
 refine o_val (v_buildA V.ar92 V.z92 rfl (cs := [_, _]) rfl) rfl ?_
 refine o_val (v_buildA V.ar92 V.z92 rfl (cs := [_, _]) rfl) rfl ?_
 refine r_build (P2) InfP.fixT V.sl93 V.z92 rfl rfl rfl rfl rfl rfl ?_
 intro b9
 refine o_val (v_len (ty' := 0) Try.underlying93 rfl) rfl ?_
 refine o_val (v_move rfl) rfl ?_
 refine o_nil ?_
 refine thn_n ?_
 refine w_block ?_
 refine w_add0 (Row I3 none 0 0 (InfP.fixK 0)) (Row.nil _ _ _) ?_
 refine w_loop3 (fun (k : Nat) (pr : Option Addr) (cr : Nat) => [(0, .pointer (some ⟨b, 0, none⟩)), (2, .slice pr (InfP.fixK k).length cr), (9, .slice (some ⟨b9, 0, none⟩) 4 4), (10, .int .i64 4), (11, .int .i64 (k : Int))]) (fun (k : Nat) (pr : Option Addr) (cr : Nat) => Row I3 pr (InfP.fixK k).length cr (InfP.fixK k) :: Row P2 (some ⟨b9, 0, none⟩) 4 4 InfP.fixT :: Cel b 67 [.pointer (some ⟨bl, 0, none⟩), .int .i64 sz, .int .i64 mo, .slice po no co, .bool s.ended, .int .i64 0, .int .i64 s.kind, .int .i64 (s.left : Int), .bool s.last, li, di, .int .i64 (s.copies : Int), .int .i64 (s.far : Int)] :: F) (fun (k : Nat) (pr : Option Addr) (cr : Nat) => k ≤ 4) (fun (k : Nat) (pr : Option Addr) (cr : Nat) => 4 - k) (i3 (0) (none) (0) ?_ (.cons rfl (.cons rfl (.cons rfl (.cons rfl (.cons rfl (.nil _)))))) (sub (.cons (by repeat first | exact .head | apply Rem.tail) (.cons (by repeat first | exact .head | apply Rem.tail) (.cons (by repeat first | exact .head | apply Rem.tail) .nil))) (by repeat first | exact .refl | apply Drop.skip))) ?_
 ·
  exact Nat.zero_le _
 intro k pr cr
 rintro hk
 refine w_seq ?_
 refine w_region ?_
 refine o_val (v_lss rfl rfl) rfl ?_
 refine o_nil ?_
 refine thn_n ?_
 refine w_seq ?_
 first | refine w_condD rfl (fun h12 => ?_) (fun h12 => ?_) | refine w_cond rfl (fun h12 => ?_) (fun h12 => ?_)
 ·
  refine w_skip ?_
  refine thn_n ?_
  refine w_seq ?_
  refine w_block ?_
  refine w_seq ?_
  refine w_region ?_
  refine o_val (r_index (c := (P2)) V.sl93 rfl rfl (own (by repeat first | exact .head _ | apply List.Mem.tail)) (by omega) (by omega)) rfl ?_
  refine o_val (r_loadA (c := (P2)) V.a92 rfl (own (by repeat first | exact .head _ | apply List.Mem.tail)) (by omega) (by omega) rfl) rfl ?_
  refine o_alloc V.z92 rfl ?_
  intro b4
  refine o_eff (v_storeAgg V.a92 rfl rfl (us := [_, _]) rfl rfl (by repeat first | exact .head | apply Rep.tail) (by exact Nat.le_of_ble_eq_true rfl) rfl) ?_
  refine o_nil ?_
  refine thn_n ?_
  have hf1 : 0 ≤ (P2.g InfP.fixT (k : Int)).2 ∧ (P2.g InfP.fixT (k : Int)).2 < 200 := InfP.fixT_g (by omega)
  have hf2 := InfP.fixK_le k (by omega)
  refine w_region ?_
  refine o_val (v_move rfl) rfl ?_
  refine o_val (v_indexA 0 rfl V.ar92 rfl rfl (by omega)) rfl ?_
  refine o_val (v_load V.s3 rfl (by repeat first | exact .head _ | apply List.Mem.tail) rfl) rfl ?_
  refine o_val (v_indexA 1 rfl V.ar92 rfl rfl (by omega)) rfl ?_
  refine o_val (v_load V.s3 rfl (by repeat first | exact .head _ | apply List.Mem.tail) rfl) rfl ?_
  refine o_call (c_rowI (P2.g InfP.fixT (k : Int)).1 (P2.g InfP.fixT (k : Int)).2 (by omega)) V.b56  rfl .nil rfl ?_
  rintro _ _ ⟨p20, c20, rfl, rfl⟩
  refine r_append (c := (I3)) V.sl30 V.z3 rfl rfl rfl rfl (by repeat first | exact .head | apply Rem.tail) (own (by repeat first | exact .head _ | apply List.Mem.tail)) (by omega) rfl ?_
  intro p21 c21
  refine o_val (v_assign rfl) rfl ?_
  refine o_nil ?_
  refine blk_n ?_
  refine thn_n ?_
  refine w_region ?_
  refine o_val (v_add rfl rfl (wrapI (by omega) (by omega))) rfl ?_
  refine o_val (v_move rfl) rfl ?_
  refine o_nil ?_
  have hst : InfP.fixK (k + 1) = InfP.fixK k ++ List.replicate (P2.g InfP.fixT (k : Int)).2.toNat (P2.g InfP.fixT (k : Int)).1 := InfP.fixK_succ k
  have hsl : (InfP.fixK (k + 1)).length = (InfP.fixK k).length + (P2.g InfP.fixT (k : Int)).2.toNat := by rw [hst, List.length_append, List.length_replicate]
  rw [← hst, ← hsl]
  refine j3 (k + 1) (_) (_) ?_ (.cons rfl (.cons rfl (.cons rfl (.cons rfl (.cons rfl (.nil _)))))) (sub (.cons (by repeat first | exact .head | apply Rem.tail) (.cons (by repeat first | exact .head | apply Rem.tail) (.cons (by repeat first | exact .head | apply Rem.tail) .nil))) (by repeat first | exact .refl | apply Drop.skip))
  exact ⟨by omega, by omega⟩
 ·
  refine w_exit ?_
  refine thn_e ?_
  refine thn_e ?_
  refine blk_x ?_
  refine thn_n ?_
  have hk4 : k = 4 := by omega
  have hfl : HuffP.newE (InfP.fixK k) = 0 := by rw [hk4, InfP.fixK_4]; exact InfP.fixL_ok
  refine w_region ?_
  refine o_val (v_move rfl) rfl ?_
  refine o_val (v_move rfl) rfl ?_
  refine o_val (v_move rfl) rfl ?_
  refine o_call (c_codeY pr (InfP.fixK k).length cr (InfP.fixK k) (Row I3 pr (InfP.fixK k).length cr (InfP.fixK k)) rfl (fun _ _ hh => row_rd rfl hh) hfl) V.b57  rfl (.cons (by repeat first | exact .head | apply Rem.tail) .nil) rfl ?_
  rintro _ _ ⟨l26, rfl, rfl⟩
  refine o_call (c_row 5 32 (by omega)) V.b56  rfl .nil rfl ?_
  rintro _ _ ⟨p27, c27, rfl, rfl⟩
  refine o_call (c_codeY p27 32 c27 (List.replicate 32 5) (Row I3 p27 32 c27 (List.replicate 32 5)) rfl (fun _ _ hh => row_rd rfl hh) InfP.fixD_ok) V.b57  rfl (.cons (by repeat first | exact .head | apply Rem.tail) .nil) rfl ?_
  rintro _ _ ⟨d28, rfl, rfl⟩
  refine o_val (v_nil rfl) rfl ?_
  refine o_val (v_fieldAddr V.f67_9 rfl) rfl ?_
  refine o_eff (v_store V.s65 rfl rfl rfl (by repeat first | exact .head | apply Rep.tail) (by exact Nat.le_of_ble_eq_true rfl) rfl) ?_
  refine o_val (v_nil rfl) rfl ?_
  refine o_val (v_fieldAddr V.f67_10 rfl) rfl ?_
  refine o_eff (v_store V.s65 rfl rfl rfl (by repeat first | exact .head | apply Rep.tail) (by exact Nat.le_of_ble_eq_true rfl) rfl) ?_
  refine o_nil ?_
  rw [hk4, InfP.fixK_4]
  exact end_ok (G := [Cel b 67 [.pointer (some ⟨bl, 0, none⟩), .int .i64 sz, .int .i64 mo, .slice po no co, .bool s.ended, .int .i64 0, .int .i64 s.kind, .int .i64 (s.left : Int), .bool s.last, (.pointer (some ⟨l26, 0, none⟩)), (.pointer (some ⟨d28, 0, none⟩)), .int .i64 (s.copies : Int), .int .i64 (s.far : Int)], HC l26 InfP.fixL, HC d28 InfP.fixD]) res0 ⟨l26, d28, rfl, rfl⟩ (sub (.cons (by repeat first | exact .head | apply Rem.tail) (.cons (by repeat first | exact .head | apply Rem.tail) (.cons (by repeat first | exact .head | apply Rem.tail) .nil))) (by repeat first | exact .refl | apply Drop.skip))
end Go.Proofs.Ytoplcgkafaoafaa

/-
 Steps of the proof: walks of functions that the statement reaches; printed by a program of ours.
-/
namespace Go.Proofs.Ytoplcgkafaoafaa
open Go.Sl 
set_option linter.unusedVariables false
set_option linter.unusedSimpArgs false

attribute [local irreducible] HuffP.newE HuffP.tk HuffP.ord HuffP.cntL HuffP.words HuffP.mostL InfP.frs InfP.toldC InfP.toldN InfP.toldA InfP.hL InfP.hD InfP.hC InfP.lnGo InfP.told InfP.fixL InfP.codeE InfP.rep

set_option maxHeartbeats 4000000 in
set_option maxRecDepth 100000 in
theorem c_told (b bl : Nat) (sz mo : Int) (po : Option Addr) (no co : Nat) (li di : Value) (s : InfP.St) (B : List Int) (a : Nat) (hl : B.length < 500000000) (hB : BitP.Byt B) (ha : a ≤ 8 * B.length) : Ctr Try.prog 50 [.pointer (some ⟨b, 0, none⟩)] [Cel b 67 [.pointer (some ⟨bl, 0, none⟩), .int .i64 sz, .int .i64 mo, .slice po no co, .bool s.ended, .int .i64 0, .int .i64 s.kind, .int .i64 (s.left : Int), .bool s.last, li, di, .int .i64 (s.copies : Int), .int .i64 (s.far : Int)], LW bl B a [] 0] (PostE (InfP.told B a) (fun x v G => ∃ l d, v = .tuple #[] ∧ G = [Cel b 67 [.pointer (some ⟨bl, 0, none⟩), .int .i64 sz, .int .i64 mo, .slice po no co, .bool s.ended, .int .i64 0, .int .i64 s.kind, .int .i64 (s.left : Int), .bool s.last, (.pointer (some ⟨l, 0, none⟩)), (.pointer (some ⟨d, 0, none⟩)), .int .i64 (s.copies : Int), .int .i64 (s.far : Int)], LW bl B x.1 [] 0, HC l x.2.1, HC d x.2.2]) [MX b bl sz mo]) := by
 refine spec_of [(0, _)] Try.func50 rfl Try.ntmps50 rfl rfl ?_
 intro w0 F
 have hn1 := BitP.numL_bound B a 5
 have hn2 := BitP.numL_bound B (a + 5) 5
 have hn3 := BitP.numL_bound B (a + 10) 4
 obtain ⟨he1, he2, he3, he4, he5, he6, he7, he8⟩ := InfP.hd_eqs B a
 have hNN : InfP.toldN B a = InfP.hL B a + InfP.hD B a := InfP.toldN_eq B a
 have hAA : InfP.toldA B a = a + 14 + 3 * InfP.hC B a := InfP.toldA_eq B a
 rcases (InfP.room3 B.length a) with hx | ⟨hx1, hx⟩ | ⟨hx1, hx⟩ | h14
 ·
  refine w_seq ?_
  refine w_net [⟨[], [], [0], 0, 0⟩, ⟨[0], [0], [], 0, 0⟩, ⟨[0, 1], [1], [], 0, 0⟩, ⟨[0, 1, 2], [2], [], 0, 0⟩, ⟨[0, 1, 2, 3], [3], [], 0, 0⟩, ⟨[0, 1, 2, 3, 4], [4], [], 0, 0⟩, ⟨[], [], [0], 0, 0⟩, ⟨[6], [6], [], 0, 0⟩, ⟨[6, 7], [7], [], 0, 0⟩, ⟨[6, 7, 8], [8], [], 0, 0⟩, ⟨[0, 1, 2, 3, 4, 6, 7, 8, 9], [9], [], 0, 0⟩, ⟨[0, 1, 2, 3, 4, 6, 7, 8, 9, 10], [10], [], 0, 0⟩, ⟨[], [], [0], 0, 0⟩, ⟨[12], [12], [], 0, 0⟩, ⟨[12, 13], [13], [], 0, 0⟩, ⟨[12, 13, 14], [14], [], 0, 0⟩, ⟨[0, 1, 2, 3, 4, 6, 7, 8, 9, 10, 12, 13, 14, 15], [15], [], 0, 0⟩, ⟨[0, 1, 2, 3, 4, 6, 7, 8, 9, 10, 12, 13, 14, 15, 16], [16], [], 0, 0⟩, ⟨[0, 1, 2, 3, 4, 5, 6, 7, 8, 9, 10, 12, 13, 14, 15, 16], [5], [], 0, 0⟩, ⟨[0, 1, 2, 3, 4, 5, 6, 7, 8, 9, 10, 11, 12, 13, 14, 15, 16, 18], [11], [], 0, 0⟩, ⟨[0, 1, 2, 3, 4, 5, 6, 7, 8, 9, 10, 11, 12, 13, 14, 15, 16, 17, 18, 19], [17], [], 0, 0⟩] [⟨fun y => Cel b 67 [.pointer (some ⟨bl, 0, none⟩), .int .i64 sz, .int .i64 mo, .slice po no co, .bool s.ended, .int .i64 0, .int .i64 s.kind, .int .i64 (s.left : Int), .bool s.last, li, di, .int .i64 (s.copies : Int), .int .i64 (s.far : Int)], none, none, [3, 4, 9, 15]⟩, ⟨fun y => LW bl B a [] 0, none, none, [4]⟩] F V.mixed (by kernel_rfl) rfl (fun _ => .refl _) (locT_0 _ (locT_0 _ locT_nil)) ?_
  refine net_pure (fun y => [(0, _)]) (fun y => rfl) rfl rfl rfl (fun y hA L => st_v (v_move rfl) ⟨rfl, rfl⟩) (by intros; rfl) (by intro y y2 h; rfl) ?_
  refine net_pure (fun y => [(12, _)]) (fun y => rfl) rfl rfl rfl (fun y hA L => st_v (v_nil rfl) ⟨rfl, rfl⟩) (by intros; rfl) (by intro y y2 h; rfl) ?_
  refine net_pure (fun y => [(13, _)]) (fun y => rfl) rfl rfl rfl (fun y hA L => st_v (v_fieldAddr V.f67_0 rfl) ⟨rfl, rfl⟩) (by intros; rfl) (by intro y y2 h; rfl) ?_
  refine net_read (fun y => [Cel b 67 [.pointer (some ⟨bl, 0, none⟩), .int .i64 sz, .int .i64 mo, .slice po no co, .bool s.ended, .int .i64 0, .int .i64 s.kind, .int .i64 (s.left : Int), .bool s.last, li, di, .int .i64 (s.copies : Int), .int .i64 (s.far : Int)]]) (fun y => [(14, _)]) (fun y => rfl) rfl (fun y => rfl) rfl (fun y FF hA => st_v (v_load V.s63 rfl (by repeat first | exact .head _ | apply List.Mem.tail) rfl) ⟨rfl, rfl⟩) (by intros; rfl) (by intro y y2 h; rfl) ?_
  refine net_pan (undef) (fun y => [Cel b 67 [.pointer (some ⟨bl, 0, none⟩), .int .i64 sz, .int .i64 mo, .slice po no co, .bool s.ended, .int .i64 0, .int .i64 s.kind, .int .i64 (s.left : Int), .bool s.last, li, di, .int .i64 (s.copies : Int), .int .i64 (s.far : Int)], LW bl B a [] 0]) (fun y => [(15, _)]) (fun y => rfl) rfl (fun y => rfl) (fun y FF hA => st_callE (c_takeE bl B a [] 0 5 hl hB (by omega) (by omega) (by omega)) V.b45 rfl (.cons (by repeat first | exact .head | apply Rem.tail) .nil) (by rintro _ _ ⟨rfl, rfl⟩; exact x_pe (InfP.told_1 (by omega)) PE.end_ (fold' (.cons (by repeat first | exact .head | apply Rem.tail) .nil) (by first | exact dp0 (M := FF) (F := F) | exact dp1 (M := FF) (F := F) | exact dp2 (M := FF) (F := F) | exact dp3 (M := FF) (F := F) | exact dp4 (M := FF) (F := F) | exact dp5 (M := FF) (F := F) | exact dp6 (M := FF) (F := F) | exact dp7 (M := FF) (F := F) | exact dp8 (M := FF) (F := F) | exact dp9 (M := FF) (F := F)) (fun w0 h hh => mx_close hh)))) ?_
  refine net_pan (.bool true) (fun y => []) (fun y => [(16, _)]) (fun y => rfl) rfl (fun y => rfl) (fun y FF hA => (KnN.fact (hA 4 (by decide)) (q := fun _ => False) rfl).elim) ?_
  refine net_pure (fun y => [(0, _)]) (fun y => rfl) rfl rfl rfl (fun y hA L => st_v (v_move rfl) ⟨rfl, rfl⟩) (by intros; rfl) (by intro y y2 h; rfl) ?_
  refine net_pure (fun y => [(18, _)]) (fun y => rfl) rfl rfl rfl (fun y hA L => st_v (v_nil rfl) ⟨rfl, rfl⟩) (by intros; rfl) (by intro y y2 h; rfl) ?_
  refine net_pure (fun y => [(19, _)]) (fun y => rfl) rfl rfl rfl (fun y hA L => st_v (v_fieldAddr V.f67_0 rfl) ⟨rfl, rfl⟩) (by intros; rfl) (by intro y y2 h; rfl) ?_
  refine net_read (fun y => [Cel b 67 [.pointer (some ⟨bl, 0, none⟩), .int .i64 sz, .int .i64 mo, .slice po no co, .bool s.ended, .int .i64 0, .int .i64 s.kind, .int .i64 (s.left : Int), .bool s.last, li, di, .int .i64 (s.copies : Int), .int .i64 (s.far : Int)]]) (fun y => [(20, _)]) (fun y => rfl) rfl (fun y => rfl) rfl (fun y FF hA => st_v (v_load V.s63 rfl (by repeat first | exact .head _ | apply List.Mem.tail) rfl) ⟨rfl, rfl⟩) (by intros; rfl) (by intro y y2 h; rfl) ?_
  refine net_pan (.bool true) (fun y => []) (fun y => [(21, _)]) (fun y => rfl) rfl (fun y => rfl) (fun y FF hA => (KnN.fact (hA 4 (by decide)) (q := fun _ => False) rfl).elim) ?_
  refine net_pan (.bool true) (fun y => []) (fun y => [(22, _)]) (fun y => rfl) rfl (fun y => rfl) (fun y FF hA => (KnN.fact (hA 4 (by decide)) (q := fun _ => False) rfl).elim) ?_
  refine net_pure (fun y => [(0, _)]) (fun y => rfl) rfl rfl rfl (fun y hA L => st_v (v_move rfl) ⟨rfl, rfl⟩) (by intros; rfl) (by intro y y2 h; rfl) ?_
  refine net_pure (fun y => [(24, _)]) (fun y => rfl) rfl rfl rfl (fun y hA L => st_v (v_nil rfl) ⟨rfl, rfl⟩) (by intros; rfl) (by intro y y2 h; rfl) ?_
  refine net_pure (fun y => [(25, _)]) (fun y => rfl) rfl rfl rfl (fun y hA L => st_v (v_fieldAddr V.f67_0 rfl) ⟨rfl, rfl⟩) (by intros; rfl) (by intro y y2 h; rfl) ?_
  refine net_read (fun y => [Cel b 67 [.pointer (some ⟨bl, 0, none⟩), .int .i64 sz, .int .i64 mo, .slice po no co, .bool s.ended, .int .i64 0, .int .i64 s.kind, .int .i64 (s.left : Int), .bool s.last, li, di, .int .i64 (s.copies : Int), .int .i64 (s.far : Int)]]) (fun y => [(26, _)]) (fun y => rfl) rfl (fun y => rfl) rfl (fun y FF hA => st_v (v_load V.s63 rfl (by repeat first | exact .head _ | apply List.Mem.tail) rfl) ⟨rfl, rfl⟩) (by intros; rfl) (by intro y y2 h; rfl) ?_
  refine net_pan (.bool true) (fun y => []) (fun y => [(27, _)]) (fun y => rfl) rfl (fun y => rfl) (fun y FF hA => (KnN.fact (hA 4 (by decide)) (q := fun _ => False) rfl).elim) ?_
  refine net_pan (.bool true) (fun y => []) (fun y => [(28, _)]) (fun y => rfl) rfl (fun y => rfl) (fun y FF hA => (KnN.fact (hA 4 (by decide)) (q := fun _ => False) rfl).elim) ?_
  refine net_pan (.bool true) (fun y => []) (fun y => [(17, _)]) (fun y => rfl) rfl (fun y => rfl) (fun y FF hA => (KnN.fact (hA 4 (by decide)) (q := fun _ => False) rfl).elim) ?_
  refine net_pan (.bool true) (fun y => []) (fun y => [(23, _)]) (fun y => rfl) rfl (fun y => rfl) (fun y FF hA => (KnN.fact (hA 4 (by decide)) (q := fun _ => False) rfl).elim) ?_
  refine net_pan (.bool true) (fun y => []) (fun y => [(29, _)]) (fun y => rfl) rfl (fun y => rfl) (fun y FF hA => (KnN.fact (hA 4 (by decide)) (q := fun _ => False) rfl).elim) ?_
  refine net_nil ?_
  intro y hA
  exact (KnN.fact (hA 4 (by exact Nat.le_of_ble_eq_true rfl)) (q := fun _ => False) rfl).elim
 ·
  refine w_seq ?_
  refine w_net [⟨[], [], [0], 0, 0⟩, ⟨[0], [0], [], 0, 0⟩, ⟨[0, 1], [1], [], 0, 0⟩, ⟨[0, 1, 2], [2], [], 0, 0⟩, ⟨[0, 1, 2, 3], [3], [], 0, 0⟩, ⟨[0, 1, 2, 3, 4], [4], [], 0, 0⟩, ⟨[], [], [0], 0, 0⟩, ⟨[6], [6], [], 0, 0⟩, ⟨[6, 7], [7], [], 0, 0⟩, ⟨[6, 7, 8], [8], [], 0, 0⟩, ⟨[0, 1, 2, 3, 4, 6, 7, 8, 9], [9], [], 0, 0⟩, ⟨[0, 1, 2, 3, 4, 6, 7, 8, 9, 10], [10], [], 0, 0⟩, ⟨[], [], [0], 0, 0⟩, ⟨[12], [12], [], 0, 0⟩, ⟨[12, 13], [13], [], 0, 0⟩, ⟨[12, 13, 14], [14], [], 0, 0⟩, ⟨[0, 1, 2, 3, 4, 6, 7, 8, 9, 10, 12, 13, 14, 15], [15], [], 0, 0⟩, ⟨[0, 1, 2, 3, 4, 6, 7, 8, 9, 10, 12, 13, 14, 15, 16], [16], [], 0, 0⟩, ⟨[0, 1, 2, 3, 4, 5, 6, 7, 8, 9, 10, 12, 13, 14, 15, 16], [5], [], 0, 0⟩, ⟨[0, 1, 2, 3, 4, 5, 6, 7, 8, 9, 10, 11, 12, 13, 14, 15, 16, 18], [11], [], 0, 0⟩, ⟨[0, 1, 2, 3, 4, 5, 6, 7, 8, 9, 10, 11, 12, 13, 14, 15, 16, 17, 18, 19], [17], [], 0, 0⟩] [⟨fun y => Cel b 67 [.pointer (some ⟨bl, 0, none⟩), .int .i64 sz, .int .i64 mo, .slice po no co, .bool s.ended, .int .i64 0, .int .i64 s.kind, .int .i64 (s.left : Int), .bool s.last, li, di, .int .i64 (s.copies : Int), .int .i64 (s.far : Int)], none, none, [3, 9, 10, 15]⟩, ⟨fun y => LW bl B a [] 0, none, some 4, []⟩, ⟨fun y => LW bl B (a + 5) [] 0, some 4, none, [10]⟩] F V.mixed (by kernel_rfl) rfl (fun _ => .refl _) (locT_0 _ (locT_0 _ (locT_1 [0, 1, 2, 3] rfl (by intro y y2 h; rfl) locT_nil))) ?_
  refine net_pure (fun y => [(0, _)]) (fun y => rfl) rfl rfl rfl (fun y hA L => st_v (v_move rfl) ⟨rfl, rfl⟩) (by intros; rfl) (by intro y y2 h; rfl) ?_
  refine net_pure (fun y => [(12, _)]) (fun y => rfl) rfl rfl rfl (fun y hA L => st_v (v_nil rfl) ⟨rfl, rfl⟩) (by intros; rfl) (by intro y y2 h; rfl) ?_
  refine net_pure (fun y => [(13, _)]) (fun y => rfl) rfl rfl rfl (fun y hA L => st_v (v_fieldAddr V.f67_0 rfl) ⟨rfl, rfl⟩) (by intros; rfl) (by intro y y2 h; rfl) ?_
  refine net_read (fun y => [Cel b 67 [.pointer (some ⟨bl, 0, none⟩), .int .i64 sz, .int .i64 mo, .slice po no co, .bool s.ended, .int .i64 0, .int .i64 s.kind, .int .i64 (s.left : Int), .bool s.last, li, di, .int .i64 (s.copies : Int), .int .i64 (s.far : Int)]]) (fun y => [(14, _)]) (fun y => rfl) rfl (fun y => rfl) rfl (fun y FF hA => st_v (v_load V.s63 rfl (by repeat first | exact .head _ | apply List.Mem.tail) rfl) ⟨rfl, rfl⟩) (by intros; rfl) (by intro y y2 h; rfl) ?_
  refine net_eff (fun y => [LW bl B a [] 0]) (fun y => []) (fun y => [LW bl B (a + 5) [] 0]) (fun y => [(15, _)]) (fun y => rfl) (fun y => rfl) (fun y => rfl) (fun y => rfl) (fun y FF hA => st_callN (Post := [LW bl B (a + 5) [] 0]) (c_take bl B a [] 0 5 hl hB (by omega) (by omega)) V.b45 rfl (.cons (by repeat first | exact .head | apply Rem.tail) .nil) (fun v G h => by rcases h with ⟨rfl, rfl⟩; exact ⟨rfl, .refl _⟩)) (by intros; rfl) (by intros; rfl) (by intro y y2 h; rfl) ?_
  refine net_pure (fun y => [(16, _)]) (fun y => rfl) rfl rfl rfl (fun y hA L => st_v (v_add rfl rfl (wrapI (by omega) (by omega))) ⟨rfl, rfl⟩) (by intros; rfl) (by intro y y2 h; rfl) ?_
  refine net_pure (fun y => [(0, _)]) (fun y => rfl) rfl rfl rfl (fun y hA L => st_v (v_move rfl) ⟨rfl, rfl⟩) (by intros; rfl) (by intro y y2 h; rfl) ?_
  refine net_pure (fun y => [(18, _)]) (fun y => rfl) rfl rfl rfl (fun y hA L => st_v (v_nil rfl) ⟨rfl, rfl⟩) (by intros; rfl) (by intro y y2 h; rfl) ?_
  refine net_pure (fun y => [(19, _)]) (fun y => rfl) rfl rfl rfl (fun y hA L => st_v (v_fieldAddr V.f67_0 rfl) ⟨rfl, rfl⟩) (by intros; rfl) (by intro y y2 h; rfl) ?_
  refine net_read (fun y => [Cel b 67 [.pointer (some ⟨bl, 0, none⟩), .int .i64 sz, .int .i64 mo, .slice po no co, .bool s.ended, .int .i64 0, .int .i64 s.kind, .int .i64 (s.left : Int), .bool s.last, li, di, .int .i64 (s.copies : Int), .int .i64 (s.far : Int)]]) (fun y => [(20, _)]) (fun y => rfl) rfl (fun y => rfl) rfl (fun y FF hA => st_v (v_load V.s63 rfl (by repeat first | exact .head _ | apply List.Mem.tail) rfl) ⟨rfl, rfl⟩) (by intros; rfl) (by intro y y2 h; rfl) ?_
  refine net_pan (undef) (fun y => [Cel b 67 [.pointer (some ⟨bl, 0, none⟩), .int .i64 sz, .int .i64 mo, .slice po no co, .bool s.ended, .int .i64 0, .int .i64 s.kind, .int .i64 (s.left : Int), .bool s.last, li, di, .int .i64 (s.copies : Int), .int .i64 (s.far : Int)], LW bl B (a + 5) [] 0]) (fun y => [(21, _)]) (fun y => rfl) rfl (fun y => rfl) (fun y FF hA => st_callE (c_takeE bl B (a + 5) [] 0 5 hl hB (by omega) (by omega) (by omega)) V.b45 rfl (.cons (by repeat first | exact .head | apply Rem.tail) .nil) (by rintro _ _ ⟨rfl, rfl⟩; exact x_pe (InfP.told_1 (by omega)) PE.end_ (fold' (.cons (by repeat first | exact .head | apply Rem.tail) .nil) (by first | exact dp0 (M := FF) (F := F) | exact dp1 (M := FF) (F := F) | exact dp2 (M := FF) (F := F) | exact dp3 (M := FF) (F := F) | exact dp4 (M := FF) (F := F) | exact dp5 (M := FF) (F := F) | exact dp6 (M := FF) (F := F) | exact dp7 (M := FF) (F := F) | exact dp8 (M := FF) (F := F) | exact dp9 (M := FF) (F := F)) (fun w0 h hh => mx_close hh)))) ?_
  refine net_pan (.bool true) (fun y => []) (fun y => [(22, _)]) (fun y => rfl) rfl (fun y => rfl) (fun y FF hA => (KnN.fact (hA 10 (by decide)) (q := fun _ => False) rfl).elim) ?_
  refine net_pure (fun y => [(0, _)]) (fun y => rfl) rfl rfl rfl (fun y hA L => st_v (v_move rfl) ⟨rfl, rfl⟩) (by intros; rfl) (by intro y y2 h; rfl) ?_
  refine net_pure (fun y => [(24, _)]) (fun y => rfl) rfl rfl rfl (fun y hA L => st_v (v_nil rfl) ⟨rfl, rfl⟩) (by intros; rfl) (by intro y y2 h; rfl) ?_
  refine net_pure (fun y => [(25, _)]) (fun y => rfl) rfl rfl rfl (fun y hA L => st_v (v_fieldAddr V.f67_0 rfl) ⟨rfl, rfl⟩) (by intros; rfl) (by intro y y2 h; rfl) ?_
  refine net_read (fun y => [Cel b 67 [.pointer (some ⟨bl, 0, none⟩), .int .i64 sz, .int .i64 mo, .slice po no co, .bool s.ended, .int .i64 0, .int .i64 s.kind, .int .i64 (s.left : Int), .bool s.last, li, di, .int .i64 (s.copies : Int), .int .i64 (s.far : Int)]]) (fun y => [(26, _)]) (fun y => rfl) rfl (fun y => rfl) rfl (fun y FF hA => st_v (v_load V.s63 rfl (by repeat first | exact .head _ | apply List.Mem.tail) rfl) ⟨rfl, rfl⟩) (by intros; rfl) (by intro y y2 h; rfl) ?_
  refine net_pan (.bool true) (fun y => []) (fun y => [(27, _)]) (fun y => rfl) rfl (fun y => rfl) (fun y FF hA => (KnN.fact (hA 10 (by decide)) (q := fun _ => False) rfl).elim) ?_
  refine net_pan (.bool true) (fun y => []) (fun y => [(28, _)]) (fun y => rfl) rfl (fun y => rfl) (fun y FF hA => (KnN.fact (hA 10 (by decide)) (q := fun _ => False) rfl).elim) ?_
  refine net_pan (.bool true) (fun y => []) (fun y => [(17, _)]) (fun y => rfl) rfl (fun y => rfl) (fun y FF hA => (KnN.fact (hA 10 (by decide)) (q := fun _ => False) rfl).elim) ?_
  refine net_pan (.bool true) (fun y => []) (fun y => [(23, _)]) (fun y => rfl) rfl (fun y => rfl) (fun y FF hA => (KnN.fact (hA 10 (by decide)) (q := fun _ => False) rfl).elim) ?_
  refine net_pan (.bool true) (fun y => []) (fun y => [(29, _)]) (fun y => rfl) rfl (fun y => rfl) (fun y FF hA => (KnN.fact (hA 10 (by decide)) (q := fun _ => False) rfl).elim) ?_
  refine net_nil ?_
  intro y hA
  exact (KnN.fact (hA 10 (by exact Nat.le_of_ble_eq_true rfl)) (q := fun _ => False) rfl).elim
 ·
  refine w_seq ?_
  refine w_net [⟨[], [], [0], 0, 0⟩, ⟨[0], [0], [], 0, 0⟩, ⟨[0, 1], [1], [], 0, 0⟩, ⟨[0, 1, 2], [2], [], 0, 0⟩, ⟨[0, 1, 2, 3], [3], [], 0, 0⟩, ⟨[0, 1, 2, 3, 4], [4], [], 0, 0⟩, ⟨[], [], [0], 0, 0⟩, ⟨[6], [6], [], 0, 0⟩, ⟨[6, 7], [7], [], 0, 0⟩, ⟨[6, 7, 8], [8], [], 0, 0⟩, ⟨[0, 1, 2, 3, 4, 6, 7, 8, 9], [9], [], 0, 0⟩, ⟨[0, 1, 2, 3, 4, 6, 7, 8, 9, 10], [10], [], 0, 0⟩, ⟨[], [], [0], 0, 0⟩, ⟨[12], [12], [], 0, 0⟩, ⟨[12, 13], [13], [], 0, 0⟩, ⟨[12, 13, 14], [14], [], 0, 0⟩, ⟨[0, 1, 2, 3, 4, 6, 7, 8, 9, 10, 12, 13, 14, 15], [15], [], 0, 0⟩, ⟨[0, 1, 2, 3, 4, 6, 7, 8, 9, 10, 12, 13, 14, 15, 16], [16], [], 0, 0⟩, ⟨[0, 1, 2, 3, 4, 5, 6, 7, 8, 9, 10, 12, 13, 14, 15, 16], [5], [], 0, 0⟩, ⟨[0, 1, 2, 3, 4, 5, 6, 7, 8, 9, 10, 11, 12, 13, 14, 15, 16, 18], [11], [], 0, 0⟩, ⟨[0, 1, 2, 3, 4, 5, 6, 7, 8, 9, 10, 11, 12, 13, 14, 15, 16, 17, 18, 19], [17], [], 0, 0⟩] [⟨fun y => Cel b 67 [.pointer (some ⟨bl, 0, none⟩), .int .i64 sz, .int .i64 mo, .slice po no co, .bool s.ended, .int .i64 0, .int .i64 s.kind, .int .i64 (s.left : Int), .bool s.last, li, di, .int .i64 (s.copies : Int), .int .i64 (s.far : Int)], none, none, [3, 9, 15, 16]⟩, ⟨fun y => LW bl B a [] 0, none, some 4, []⟩, ⟨fun y => LW bl B (a + 5) [] 0, some 4, some 10, []⟩, ⟨fun y => LW bl B (a + 10) [] 0, some 10, none, [16]⟩] F V.mixed (by kernel_rfl) rfl (fun _ => .refl _) (locT_0 _ (locT_0 _ (locT_1 [0, 1, 2, 3] rfl (by intro y y2 h; rfl) (locT_1 [0, 1, 2, 3, 4, 6, 7, 8, 9] rfl (by intro y y2 h; rfl) locT_nil)))) ?_
  refine net_pure (fun y => [(0, _)]) (fun y => rfl) rfl rfl rfl (fun y hA L => st_v (v_move rfl) ⟨rfl, rfl⟩) (by intros; rfl) (by intro y y2 h; rfl) ?_
  refine net_pure (fun y => [(12, _)]) (fun y => rfl) rfl rfl rfl (fun y hA L => st_v (v_nil rfl) ⟨rfl, rfl⟩) (by intros; rfl) (by intro y y2 h; rfl) ?_
  refine net_pure (fun y => [(13, _)]) (fun y => rfl) rfl rfl rfl (fun y hA L => st_v (v_fieldAddr V.f67_0 rfl) ⟨rfl, rfl⟩) (by intros; rfl) (by intro y y2 h; rfl) ?_
  refine net_read (fun y => [Cel b 67 [.pointer (some ⟨bl, 0, none⟩), .int .i64 sz, .int .i64 mo, .slice po no co, .bool s.ended, .int .i64 0, .int .i64 s.kind, .int .i64 (s.left : Int), .bool s.last, li, di, .int .i64 (s.copies : Int), .int .i64 (s.far : Int)]]) (fun y => [(14, _)]) (fun y => rfl) rfl (fun y => rfl) rfl (fun y FF hA => st_v (v_load V.s63 rfl (by repeat first | exact .head _ | apply List.Mem.tail) rfl) ⟨rfl, rfl⟩) (by intros; rfl) (by intro y y2 h; rfl) ?_
  refine net_eff (fun y => [LW bl B a [] 0]) (fun y => []) (fun y => [LW bl B (a + 5) [] 0]) (fun y => [(15, _)]) (fun y => rfl) (fun y => rfl) (fun y => rfl) (fun y => rfl) (fun y FF hA => st_callN (Post := [LW bl B (a + 5) [] 0]) (c_take bl B a [] 0 5 hl hB (by omega) (by omega)) V.b45 rfl (.cons (by repeat first | exact .head | apply Rem.tail) .nil) (fun v G h => by rcases h with ⟨rfl, rfl⟩; exact ⟨rfl, .refl _⟩)) (by intros; rfl) (by intros; rfl) (by intro y y2 h; rfl) ?_
  refine net_pure (fun y => [(16, _)]) (fun y => rfl) rfl rfl rfl (fun y hA L => st_v (v_add rfl rfl (wrapI (by omega) (by omega))) ⟨rfl, rfl⟩) (by intros; rfl) (by intro y y2 h; rfl) ?_
  refine net_pure (fun y => [(0, _)]) (fun y => rfl) rfl rfl rfl (fun y hA L => st_v (v_move rfl) ⟨rfl, rfl⟩) (by intros; rfl) (by intro y y2 h; rfl) ?_
  refine net_pure (fun y => [(18, _)]) (fun y => rfl) rfl rfl rfl (fun y hA L => st_v (v_nil rfl) ⟨rfl, rfl⟩) (by intros; rfl) (by intro y y2 h; rfl) ?_
  refine net_pure (fun y => [(19, _)]) (fun y => rfl) rfl rfl rfl (fun y hA L => st_v (v_fieldAddr V.f67_0 rfl) ⟨rfl, rfl⟩) (by intros; rfl) (by intro y y2 h; rfl) ?_
  refine net_read (fun y => [Cel b 67 [.pointer (some ⟨bl, 0, none⟩), .int .i64 sz, .int .i64 mo, .slice po no co, .bool s.ended, .int .i64 0, .int .i64 s.kind, .int .i64 (s.left : Int), .bool s.last, li, di, .int .i64 (s.copies : Int), .int .i64 (s.far : Int)]]) (fun y => [(20, _)]) (fun y => rfl) rfl (fun y => rfl) rfl (fun y FF hA => st_v (v_load V.s63 rfl (by repeat first | exact .head _ | apply List.Mem.tail) rfl) ⟨rfl, rfl⟩) (by intros; rfl) (by intro y y2 h; rfl) ?_
  refine net_eff (fun y => [LW bl B (a + 5) [] 0]) (fun y => []) (fun y => [LW bl B (a + 10) [] 0]) (fun y => [(21, _)]) (fun y => rfl) (fun y => rfl) (fun y => rfl) (fun y => rfl) (fun y FF hA => st_callN (Post := [LW bl B (a + 10) [] 0]) (c_take bl B (a + 5) [] 0 5 hl hB (by omega) (by omega)) V.b45 rfl (.cons (by repeat first | exact .head | apply Rem.tail) .nil) (fun v G h => by rcases h with ⟨rfl, rfl⟩; exact ⟨rfl, .refl _⟩)) (by intros; rfl) (by intros; rfl) (by intro y y2 h; rfl) ?_
  refine net_pure (fun y => [(22, _)]) (fun y => rfl) rfl rfl rfl (fun y hA L => st_v (v_add rfl rfl (wrapI (by omega) (by omega))) ⟨rfl, rfl⟩) (by intros; rfl) (by intro y y2 h; rfl) ?_
  refine net_pure (fun y => [(0, _)]) (fun y => rfl) rfl rfl rfl (fun y hA L => st_v (v_move rfl) ⟨rfl, rfl⟩) (by intros; rfl) (by intro y y2 h; rfl) ?_
  refine net_pure (fun y => [(24, _)]) (fun y => rfl) rfl rfl rfl (fun y hA L => st_v (v_nil rfl) ⟨rfl, rfl⟩) (by intros; rfl) (by intro y y2 h; rfl) ?_
  refine net_pure (fun y => [(25, _)]) (fun y => rfl) rfl rfl rfl (fun y hA L => st_v (v_fieldAddr V.f67_0 rfl) ⟨rfl, rfl⟩) (by intros; rfl) (by intro y y2 h; rfl) ?_
  refine net_read (fun y => [Cel b 67 [.pointer (some ⟨bl, 0, none⟩), .int .i64 sz, .int .i64 mo, .slice po no co, .bool s.ended, .int .i64 0, .int .i64 s.kind, .int .i64 (s.left : Int), .bool s.last, li, di, .int .i64 (s.copies : Int), .int .i64 (s.far : Int)]]) (fun y => [(26, _)]) (fun y => rfl) rfl (fun y => rfl) rfl (fun y FF hA => st_v (v_load V.s63 rfl (by repeat first | exact .head _ | apply List.Mem.tail) rfl) ⟨rfl, rfl⟩) (by intros; rfl) (by intro y y2 h; rfl) ?_
  refine net_pan (undef) (fun y => [Cel b 67 [.pointer (some ⟨bl, 0, none⟩), .int .i64 sz, .int .i64 mo, .slice po no co, .bool s.ended, .int .i64 0, .int .i64 s.kind, .int .i64 (s.left : Int), .bool s.last, li, di, .int .i64 (s.copies : Int), .int .i64 (s.far : Int)], LW bl B (a + 10) [] 0]) (fun y => [(27, _)]) (fun y => rfl) rfl (fun y => rfl) (fun y FF hA => st_callE (c_takeE bl B (a + 10) [] 0 4 hl hB (by omega) (by omega) (by omega)) V.b45 rfl (.cons (by repeat first | exact .head | apply Rem.tail) .nil) (by rintro _ _ ⟨rfl, rfl⟩; exact x_pe (InfP.told_1 (by omega)) PE.end_ (fold' (.cons (by repeat first | exact .head | apply Rem.tail) .nil) (by first | exact dp0 (M := FF) (F := F) | exact dp1 (M := FF) (F := F) | exact dp2 (M := FF) (F := F) | exact dp3 (M := FF) (F := F) | exact dp4 (M := FF) (F := F) | exact dp5 (M := FF) (F := F) | exact dp6 (M := FF) (F := F) | exact dp7 (M := FF) (F := F) | exact dp8 (M := FF) (F := F) | exact dp9 (M := FF) (F := F)) (fun w0 h hh => mx_close hh)))) ?_
  refine net_pan (.bool true) (fun y => []) (fun y => [(28, _)]) (fun y => rfl) rfl (fun y => rfl) (fun y FF hA => (KnN.fact (hA 16 (by decide)) (q := fun _ => False) rfl).elim) ?_
  refine net_pan (.bool true) (fun y => []) (fun y => [(17, _)]) (fun y => rfl) rfl (fun y => rfl) (fun y FF hA => (KnN.fact (hA 16 (by decide)) (q := fun _ => False) rfl).elim) ?_
  refine net_pan (.bool true) (fun y => []) (fun y => [(23, _)]) (fun y => rfl) rfl (fun y => rfl) (fun y FF hA => (KnN.fact (hA 16 (by decide)) (q := fun _ => False) rfl).elim) ?_
  refine net_pan (.bool true) (fun y => []) (fun y => [(29, _)]) (fun y => rfl) rfl (fun y => rfl) (fun y FF hA => (KnN.fact (hA 16 (by decide)) (q := fun _ => False) rfl).elim) ?_
  refine net_nil ?_
  intro y hA
  exact (KnN.fact (hA 16 (by exact Nat.le_of_ble_eq_true rfl)) (q := fun _ => False) rfl).elim
 ·
  refine w_seq ?_
  refine w_net [⟨[], [], [0], 0, 0⟩, ⟨[0], [0], [], 0, 0⟩, ⟨[0, 1], [1], [], 0, 0⟩, ⟨[0, 1, 2], [2], [], 0, 0⟩, ⟨[0, 1, 2, 3], [3], [], 0, 0⟩, ⟨[0, 1, 2, 3, 4], [4], [], 0, 0⟩, ⟨[], [], [0], 0, 0⟩, ⟨[6], [6], [], 0, 0⟩, ⟨[6, 7], [7], [], 0, 0⟩, ⟨[6, 7, 8], [8], [], 0, 0⟩, ⟨[0, 1, 2, 3, 4, 6, 7, 8, 9], [9], [], 0, 0⟩, ⟨[0, 1, 2, 3, 4, 6, 7, 8, 9, 10], [10], [], 0, 0⟩, ⟨[], [], [0], 0, 0⟩, ⟨[12], [12], [], 0, 0⟩, ⟨[12, 13], [13], [], 0, 0⟩, ⟨[12, 13, 14], [14], [], 0, 0⟩, ⟨[0, 1, 2, 3, 4, 6, 7, 8, 9, 10, 12, 13, 14, 15], [15], [], 0, 0⟩, ⟨[0, 1, 2, 3, 4, 6, 7, 8, 9, 10, 12, 13, 14, 15, 16], [16], [], 0, 0⟩, ⟨[0, 1, 2, 3, 4, 5, 6, 7, 8, 9, 10, 12, 13, 14, 15, 16], [5], [], 0, 0⟩, ⟨[0, 1, 2, 3, 4, 5, 6, 7, 8, 9, 10, 11, 12, 13, 14, 15, 16, 18], [11], [], 0, 0⟩, ⟨[0, 1, 2, 3, 4, 5, 6, 7, 8, 9, 10, 11, 12, 13, 14, 15, 16, 17, 18, 19], [17], [], 0, 0⟩] [⟨fun y => Cel b 67 [.pointer (some ⟨bl, 0, none⟩), .int .i64 sz, .int .i64 mo, .slice po no co, .bool s.ended, .int .i64 0, .int .i64 s.kind, .int .i64 (s.left : Int), .bool s.last, li, di, .int .i64 (s.copies : Int), .int .i64 (s.far : Int)], none, none, [3, 9, 15]⟩, ⟨fun y => LW bl B a [] 0, none, some 4, []⟩, ⟨fun y => LW bl B (a + 5) [] 0, some 4, some 10, []⟩, ⟨fun y => LW bl B (a + 10) [] 0, some 10, some 16, []⟩, ⟨fun y => LW bl B (a + 14) [] 0, some 16, none, []⟩] F V.mixed (by kernel_rfl) rfl (fun _ => .refl _) (locT_0 _ (locT_0 _ (locT_1 [0, 1, 2, 3] rfl (by intro y y2 h; rfl) (locT_1 [0, 1, 2, 3, 4, 6, 7, 8, 9] rfl (by intro y y2 h; rfl) (locT_1 [0, 1, 2, 3, 4, 6, 7, 8, 9, 10, 12, 13, 14, 15] rfl (by intro y y2 h; rfl) locT_nil))))) ?_
  refine net_pure (fun y => [(0, _)]) (fun y => rfl) rfl rfl rfl (fun y hA L => st_v (v_move rfl) ⟨rfl, rfl⟩) (by intros; rfl) (by intro y y2 h; rfl) ?_
  refine net_pure (fun y => [(12, _)]) (fun y => rfl) rfl rfl rfl (fun y hA L => st_v (v_nil rfl) ⟨rfl, rfl⟩) (by intros; rfl) (by intro y y2 h; rfl) ?_
  refine net_pure (fun y => [(13, _)]) (fun y => rfl) rfl rfl rfl (fun y hA L => st_v (v_fieldAddr V.f67_0 rfl) ⟨rfl, rfl⟩) (by intros; rfl) (by intro y y2 h; rfl) ?_
  refine net_read (fun y => [Cel b 67 [.pointer (some ⟨bl, 0, none⟩), .int .i64 sz, .int .i64 mo, .slice po no co, .bool s.ended, .int .i64 0, .int .i64 s.kind, .int .i64 (s.left : Int), .bool s.last, li, di, .int .i64 (s.copies : Int), .int .i64 (s.far : Int)]]) (fun y => [(14, _)]) (fun y => rfl) rfl (fun y => rfl) rfl (fun y FF hA => st_v (v_load V.s63 rfl (by repeat first | exact .head _ | apply List.Mem.tail) rfl) ⟨rfl, rfl⟩) (by intros; rfl) (by intro y y2 h; rfl) ?_
  refine net_eff (fun y => [LW bl B a [] 0]) (fun y => []) (fun y => [LW bl B (a + 5) [] 0]) (fun y => [(15, _)]) (fun y => rfl) (fun y => rfl) (fun y => rfl) (fun y => rfl) (fun y FF hA => st_callN (Post := [LW bl B (a + 5) [] 0]) (c_take bl B a [] 0 5 hl hB (by omega) (by omega)) V.b45 rfl (.cons (by repeat first | exact .head | apply Rem.tail) .nil) (fun v G h => by rcases h with ⟨rfl, rfl⟩; exact ⟨rfl, .refl _⟩)) (by intros; rfl) (by intros; rfl) (by intro y y2 h; rfl) ?_
  refine net_pure (fun y => [(16, _)]) (fun y => rfl) rfl rfl rfl (fun y hA L => st_v (v_add rfl rfl (wrapI (by omega) (by omega))) ⟨rfl, rfl⟩) (by intros; rfl) (by intro y y2 h; rfl) ?_
  refine net_pure (fun y => [(0, _)]) (fun y => rfl) rfl rfl rfl (fun y hA L => st_v (v_move rfl) ⟨rfl, rfl⟩) (by intros; rfl) (by intro y y2 h; rfl) ?_
  refine net_pure (fun y => [(18, _)]) (fun y => rfl) rfl rfl rfl (fun y hA L => st_v (v_nil rfl) ⟨rfl, rfl⟩) (by intros; rfl) (by intro y y2 h; rfl) ?_
  refine net_pure (fun y => [(19, _)]) (fun y => rfl) rfl rfl rfl (fun y hA L => st_v (v_fieldAddr V.f67_0 rfl) ⟨rfl, rfl⟩) (by intros; rfl) (by intro y y2 h; rfl) ?_
  refine net_read (fun y => [Cel b 67 [.pointer (some ⟨bl, 0, none⟩), .int .i64 sz, .int .i64 mo, .slice po no co, .bool s.ended, .int .i64 0, .int .i64 s.kind, .int .i64 (s.left : Int), .bool s.last, li, di, .int .i64 (s.copies : Int), .int .i64 (s.far : Int)]]) (fun y => [(20, _)]) (fun y => rfl) rfl (fun y => rfl) rfl (fun y FF hA => st_v (v_load V.s63 rfl (by repeat first | exact .head _ | apply List.Mem.tail) rfl) ⟨rfl, rfl⟩) (by intros; rfl) (by intro y y2 h; rfl) ?_
  refine net_eff (fun y => [LW bl B (a + 5) [] 0]) (fun y => []) (fun y => [LW bl B (a + 10) [] 0]) (fun y => [(21, _)]) (fun y => rfl) (fun y => rfl) (fun y => rfl) (fun y => rfl) (fun y FF hA => st_callN (Post := [LW bl B (a + 10) [] 0]) (c_take bl B (a + 5) [] 0 5 hl hB (by omega) (by omega)) V.b45 rfl (.cons (by repeat first | exact .head | apply Rem.tail) .nil) (fun v G h => by rcases h with ⟨rfl, rfl⟩; exact ⟨rfl, .refl _⟩)) (by intros; rfl) (by intros; rfl) (by intro y y2 h; rfl) ?_
  refine net_pure (fun y => [(22, _)]) (fun y => rfl) rfl rfl rfl (fun y hA L => st_v (v_add rfl rfl (wrapI (by omega) (by omega))) ⟨rfl, rfl⟩) (by intros; rfl) (by intro y y2 h; rfl) ?_
  refine net_pure (fun y => [(0, _)]) (fun y => rfl) rfl rfl rfl (fun y hA L => st_v (v_move rfl) ⟨rfl, rfl⟩) (by intros; rfl) (by intro y y2 h; rfl) ?_
  refine net_pure (fun y => [(24, _)]) (fun y => rfl) rfl rfl rfl (fun y hA L => st_v (v_nil rfl) ⟨rfl, rfl⟩) (by intros; rfl) (by intro y y2 h; rfl) ?_
  refine net_pure (fun y => [(25, _)]) (fun y => rfl) rfl rfl rfl (fun y hA L => st_v (v_fieldAddr V.f67_0 rfl) ⟨rfl, rfl⟩) (by intros; rfl) (by intro y y2 h; rfl) ?_
  refine net_read (fun y => [Cel b 67 [.pointer (some ⟨bl, 0, none⟩), .int .i64 sz, .int .i64 mo, .slice po no co, .bool s.ended, .int .i64 0, .int .i64 s.kind, .int .i64 (s.left : Int), .bool s.last, li, di, .int .i64 (s.copies : Int), .int .i64 (s.far : Int)]]) (fun y => [(26, _)]) (fun y => rfl) rfl (fun y => rfl) rfl (fun y FF hA => st_v (v_load V.s63 rfl (by repeat first | exact .head _ | apply List.Mem.tail) rfl) ⟨rfl, rfl⟩) (by intros; rfl) (by intro y y2 h; rfl) ?_
  refine net_eff (fun y => [LW bl B (a + 10) [] 0]) (fun y => []) (fun y => [LW bl B (a + 14) [] 0]) (fun y => [(27, _)]) (fun y => rfl) (fun y => rfl) (fun y => rfl) (fun y => rfl) (fun y FF hA => st_callN (Post := [LW bl B (a + 14) [] 0]) (c_take bl B (a + 10) [] 0 4 hl hB (by omega) (by omega)) V.b45 rfl (.cons (by repeat first | exact .head | apply Rem.tail) .nil) (fun v G h => by rcases h with ⟨rfl, rfl⟩; exact ⟨rfl, .refl _⟩)) (by intros; rfl) (by intros; rfl) (by intro y y2 h; rfl) ?_
  refine net_pure (fun y => [(28, _)]) (fun y => rfl) rfl rfl rfl (fun y hA L => st_v (v_add rfl rfl (wrapI (by omega) (by omega))) ⟨rfl, rfl⟩) (by intros; rfl) (by intro y y2 h; rfl) ?_
  refine net_pure (fun y => [(17, _)]) (fun y => rfl) rfl rfl rfl (fun y hA L => st_v (v_assign rfl) ⟨rfl, rfl⟩) (by intros; rfl) (by intro y y2 h; rfl) ?_
  refine net_pure (fun y => [(23, _)]) (fun y => rfl) rfl rfl rfl (fun y hA L => st_v (v_assign rfl) ⟨rfl, rfl⟩) (by intros; rfl) (by intro y y2 h; rfl) ?_
  refine net_pure (fun y => [(29, _)]) (fun y => rfl) rfl rfl rfl (fun y hA L => st_v (v_assign rfl) ⟨rfl, rfl⟩) (by intros; rfl) (by intro y y2 h; rfl) ?_
  refine net_nil ?_
  intro y hA
  clear hA
  refine thn_n ?_
  refine w_keep _ (.cons (d := 0) rfl (.cons (d := 2) rfl (.cons (d := 3) rfl (.cons (d := 4) rfl (.nil _))))) ?_
  refine w_sub (M := Cel b 67 [.pointer (some ⟨bl, 0, none⟩), .int .i64 sz, .int .i64 mo, .slice po no co, .bool s.ended, .int .i64 0, .int .i64 s.kind, .int .i64 (s.left : Int), .bool s.last, li, di, .int .i64 (s.copies : Int), .int .i64 (s.far : Int)] :: LW bl B (a + 14) [] 0 :: F) (fun _ _ h => h) ?_
  rcases (InfP.or3 (InfP.hL B a ≤ 286) (InfP.hD B a ≤ 30)) with ⟨hq1, hq2⟩ | ⟨hq1, hq2⟩ | hq1
  ·
   refine w_seq ?_
   rw [he1, he2, he3]
   refine w_region ?_
   refine o_val (v_move rfl) rfl ?_
   refine o_val (v_T (v_leq rfl rfl) (by omega)) rfl ?_
   refine o_val (v_move rfl) rfl ?_
   refine o_want rfl ?_
   refine o_val (v_move rfl) rfl ?_
   refine o_want rfl ?_
   refine o_val (v_T (v_leq rfl rfl) (by omega)) rfl ?_
   refine o_val (v_pickT rfl rfl) rfl ?_
   refine o_call (c_must 4) V.b47  rfl .nil rfl ?_
   rintro _ _ ⟨rfl, rfl⟩
   refine o_nil ?_
   refine thn_n ?_
   refine w_seq ?_
   refine w_region ?_
   refine o_call (c_row 0 19 (by omega)) V.b56  rfl .nil rfl ?_
   rintro _ _ ⟨p37, c37, rfl, rfl⟩
   refine o_val (v_assign rfl) rfl ?_
   refine o_nil ?_
   refine thn_n ?_
   refine w_seq ?_
   refine w_seq ?_
   refine w_region ?_
   refine o_call (c_order) V.b58  rfl .nil rfl ?_
   rintro _ _ ⟨p38, rfl, rfl⟩
   refine o_val (v_move rfl) rfl ?_
   refine o_val (v_slice0 (InfP.hC B a) _ V.sl30 rfl ⟨_, rfl⟩ rfl (by omega) (by omega)) rfl ?_
   refine o_val (v_len (ty' := 0) Try.underlying30 rfl) rfl ?_
   refine o_val (v_move rfl) rfl ?_
   refine o_nil ?_
   refine thn_n ?_
   refine w_block ?_
   rw [← InfP.frs_zero B (a + 14)]
   rw [show LW bl B (a + 14) [] 0 = LW bl B (a + 14 + 3 * 0) [] 0 from rfl]
   refine w_loop1 (fun (k : Nat) => [(0, .pointer (some ⟨b, 0, none⟩)), (2, .int .i64 (InfP.hL B a : Int)), (3, .int .i64 (InfP.hD B a : Int)), (5, .slice p37 19 c37), (40, .slice p38 (InfP.hC B a) 19), (41, .int .i64 ((InfP.hC B a) : Int)), (42, .int .i64 (k : Int))]) (fun (k : Nat) => Row I3 p37 19 c37 (InfP.frs B (a + 14) k) :: Row I3 p38 19 19 InfP.ordr :: Cel b 67 [.pointer (some ⟨bl, 0, none⟩), .int .i64 sz, .int .i64 mo, .slice po no co, .bool s.ended, .int .i64 0, .int .i64 s.kind, .int .i64 (s.left : Int), .bool s.last, li, di, .int .i64 (s.copies : Int), .int .i64 (s.far : Int)] :: LW bl B (a + 14 + 3 * k) [] 0 :: F) (fun (k : Nat) => k ≤ InfP.hC B a ∧ a + 14 + 3 * k ≤ 8 * B.length) (fun (k : Nat) => InfP.hC B a - k) (i1 (0) ?_ (.cons rfl (.cons rfl (.cons rfl (.cons rfl (.cons rfl (.cons rfl (.cons rfl (.nil _)))))))) (sub (.cons (by repeat first | exact .head | apply Rem.tail) (.cons (by repeat first | exact .head | apply Rem.tail) (.cons (by repeat first | exact .head | apply Rem.tail) (.cons (by repeat first | exact .head | apply Rem.tail) .nil)))) (by repeat first | exact .refl | apply Drop.skip))) ?_
   ·
    exact ⟨Nat.zero_le _, by omega⟩
   intro k
   rintro ⟨hk, hk2⟩
   refine w_seq ?_
   refine w_region ?_
   refine o_val (v_lss rfl rfl) rfl ?_
   refine o_nil ?_
   refine thn_n ?_
   refine w_seq ?_
   first | refine w_condD rfl (fun h43 => ?_) (fun h43 => ?_) | refine w_cond rfl (fun h43 => ?_) (fun h43 => ?_)
   ·
    refine w_skip ?_
    refine thn_n ?_
    refine w_seq ?_
    refine w_block ?_
    refine w_seq ?_
    have hoo : 0 ≤ I3.g InfP.ordr (k : Int) ∧ I3.g InfP.ordr (k : Int) < 19 := InfP.ordr_at (k := k) (by omega)
    refine w_region ?_
    refine o_val (r_index (c := (I3)) V.sl30 rfl rfl (by first | exact own mm0 | exact own mm1 | exact own mm2 | exact own mm3 | exact own mm4 | exact own mm5 | exact own mm6 | exact own mm7 | exact own mm8 | exact own mm9 | exact own mm10 | exact own mm11 | exact (own mm1).take _ (by omega)) (by omega) (by omega)) rfl ?_
    refine o_val (r_load (c := (I3)) V.s3 rfl (by first | exact own mm0 | exact own mm1 | exact own mm2 | exact own mm3 | exact own mm4 | exact own mm5 | exact own mm6 | exact own mm7 | exact own mm8 | exact own mm9 | exact own mm10 | exact own mm11 | exact (own mm1).take _ (by omega)) (by omega) (by omega) rfl rfl) rfl ?_
    refine o_val (v_assign rfl) rfl ?_
    refine o_nil ?_
    refine thn_n ?_
    rcases (Nat.lt_or_ge (8 * B.length) ((a + 14 + 3 * k) + 3)) with hx | hx
    ·
     refine w_region ?_
     refine o_val (v_move rfl) rfl ?_
     refine o_val (v_move rfl) rfl ?_
     refine o_val (v_move rfl) rfl ?_
     refine o_val (v_nil rfl) rfl ?_
     refine o_val (v_fieldAddr V.f67_0 rfl) rfl ?_
     refine o_val (v_load V.s63 rfl (by repeat first | exact .head _ | apply List.Mem.tail) rfl) rfl ?_
     refine o_callE (c_takeE bl B (a + 14 + 3 * k) [] 0 3 hl hB (by omega) (by omega) (by omega)) V.b45 rfl (.cons (by repeat first | exact .head | apply Rem.tail) .nil) ?_
     rintro _ _ ⟨rfl, rfl⟩
     refine (blk_p (thn_p (thn_p (blk_p (thn_p ?_)))))
     exact pe_pan (InfP.told_3 h14 ⟨hq1, hq2⟩ (by omega)) PE.end_ (fold' (.cons (by repeat first | exact .head | apply Rem.tail) .nil) (by repeat first | exact .refl | apply Drop.skip) (fun w0 h hh => mx_close hh))
    ·
     refine w_region ?_
     refine o_val (v_move rfl) rfl ?_
     refine o_val (v_move rfl) rfl ?_
     refine o_val (v_move rfl) rfl ?_
     refine o_val (v_nil rfl) rfl ?_
     refine o_val (v_fieldAddr V.f67_0 rfl) rfl ?_
     refine o_val (v_load V.s63 rfl (by repeat first | exact .head _ | apply List.Mem.tail) rfl) rfl ?_
     refine o_call (c_take bl B (a + 14 + 3 * k) [] 0 3 hl hB (by omega) (by omega)) V.b45  rfl (.cons (by repeat first | exact .head | apply Rem.tail) .nil) rfl ?_
     rintro _ _ ⟨rfl, rfl⟩
     refine o_val (r_index (c := (I3)) V.sl30 rfl rfl (by first | exact own mm0 | exact own mm1 | exact own mm2 | exact own mm3 | exact own mm4 | exact own mm5 | exact own mm6 | exact own mm7 | exact own mm8 | exact own mm9 | exact own mm10 | exact own mm11 | exact (own mm1).take _ (by omega)) (by omega) (by omega)) rfl ?_
     refine o_eff (r_store (c := (I3)) (_) V.s3 rfl rfl rfl (by repeat first | exact .head | apply Rep.tail) (by omega) (by omega) rfl rfl) ?_
     refine o_nil ?_
     refine blk_n ?_
     refine thn_n ?_
     refine w_region ?_
     refine o_val (v_add rfl rfl (wrapI (by omega) (by omega))) rfl ?_
     refine o_val (v_move rfl) rfl ?_
     refine o_nil ?_
     rw [show (InfP.frs B (a + 14) k).set (I3.g InfP.ordr (k : Int)).toNat (BitP.numL B (a + 14 + 3 * k) 3) = InfP.frs B (a + 14) (k + 1) from (InfP.frs_succ B (a + 14) k).symm]
     rw [show a + 14 + 3 * k + 3 = a + 14 + 3 * (k + 1) from by omega]
     refine j1 (k + 1) ?_ (.cons rfl (.cons rfl (.cons rfl (.cons rfl (.cons rfl (.cons rfl (.cons rfl (.nil _)))))))) (sub (.cons (by repeat first | exact .head | apply Rem.tail) (.cons (by repeat first | exact .head | apply Rem.tail) (.cons (by repeat first | exact .head | apply Rem.tail) (.cons (by repeat first | exact .head | apply Rem.tail) .nil)))) (by repeat first | exact .refl | apply Drop.skip))
     exact ⟨⟨by omega, by omega⟩, by omega⟩
   ·
    refine w_exit ?_
    refine thn_e ?_
    refine thn_e ?_
    refine blk_x ?_
    refine thn_n ?_
    rcases (Classical.em (HuffP.newE (InfP.toldC B a) = 0)) with hy | hy
    ·
     refine w_seq ?_
     have hkC : k = InfP.hC B a := by omega
     rw [show InfP.frs B (a + 14) k = InfP.toldC B a from by rw [hkC]; exact (InfP.toldC_eq B a).symm, show a + 14 + 3 * k = InfP.toldA B a from by omega]
     have hta : InfP.toldA B a ≤ 8 * B.length := by omega
     refine w_region ?_
     refine o_val (v_move rfl) rfl ?_
     refine o_call (c_codeY p37 19 c37 (InfP.toldC B a) (Row I3 p37 19 c37 (InfP.toldC B a)) (InfP.toldC_len B a).symm (fun _ _ hh => row_rd (InfP.toldC_len B a).symm hh) hy) V.b57  rfl (.cons (by repeat first | exact .head | apply Rem.tail) .nil) rfl ?_
     rintro _ _ ⟨bc, rfl, rfl⟩
     refine o_val (v_assign rfl) rfl ?_
     refine o_nil ?_
     refine thn_n ?_
     refine w_seq ?_
     refine w_region ?_
     refine o_val (v_assign rfl) rfl ?_
     refine o_nil ?_
     refine thn_n ?_
     refine w_seq ?_
     refine w_block ?_
     refine w_add0 (Row I3 none 0 0 []) (Row.nil _ _ _) ?_
     refine w_loop5 (fun (l : List Int) (f : Nat) (x : Nat) (pr : Option Addr) (cr : Nat) => [(0, .pointer (some ⟨b, 0, none⟩)), (2, .int .i64 (InfP.hL B a : Int)), (3, .int .i64 (InfP.hD B a : Int)), (8, .pointer (some ⟨bc, 0, none⟩)), (9, .slice pr l.length cr)]) (fun (l : List Int) (f : Nat) (x : Nat) (pr : Option Addr) (cr : Nat) => Row I3 pr l.length cr l :: HC bc (InfP.toldC B a) :: Cel b 67 [.pointer (some ⟨bl, 0, none⟩), .int .i64 sz, .int .i64 mo, .slice po no co, .bool s.ended, .int .i64 0, .int .i64 s.kind, .int .i64 (s.left : Int), .bool s.last, li, di, .int .i64 (s.copies : Int), .int .i64 (s.far : Int)] :: LW bl B x [] 0 :: F) (fun (l : List Int) (f : Nat) (x : Nat) (pr : Option Addr) (cr : Nat) => InfP.lnGo B (InfP.toldC B a) (InfP.toldN B a) (InfP.toldN B a) [] (InfP.toldA B a) = InfP.lnGo B (InfP.toldC B a) (InfP.toldN B a) f l x ∧ (InfP.toldN B a) ≤ f + l.length ∧ l.length ≤ (InfP.toldN B a) ∧ x ≤ 8 * B.length) (fun (l : List Int) (f : Nat) (x : Nat) (pr : Option Addr) (cr : Nat) => (InfP.toldN B a) - l.length) (i5 ([]) ((InfP.toldN B a)) ((InfP.toldA B a)) (none) (0) ?_ (.cons rfl (.cons rfl (.cons rfl (.cons rfl (.cons rfl (.nil _)))))) (sub (.cons (by repeat first | exact .head | apply Rem.tail) (.cons (by repeat first | exact .head | apply Rem.tail) (.cons (by repeat first | exact .head | apply Rem.tail) (.cons (by repeat first | exact .head | apply Rem.tail) .nil)))) (by repeat first | exact .refl | apply Drop.skip))) ?_
     ·
      exact ⟨rfl, Nat.le_add_right _ _, Nat.zero_le _, hta⟩
     intro l f x pr cr
     rintro ⟨hg, hf, hlt, hx⟩
     refine w_seq ?_
     refine w_seq ?_
     refine w_region ?_
     refine o_val (v_move rfl) rfl ?_
     refine o_val (v_len (ty' := 0) Try.underlying30 rfl) rfl ?_
     refine o_val (v_move rfl) rfl ?_
     refine o_val (v_move rfl) rfl ?_
     refine o_val (v_add rfl rfl (wrapI (by omega) (by omega))) rfl ?_
     refine o_val (v_lss rfl rfl) rfl ?_
     refine o_nil ?_
     refine thn_n ?_
     first | refine w_condD rfl (fun h62 => ?_) (fun h62 => ?_) | refine w_cond rfl (fun h62 => ?_) (fun h62 => ?_)
     ·
      refine w_skip ?_
      refine thn_n ?_
      refine w_block ?_
      rcases (InfP.ln_or B (InfP.toldC B a) l x) with ⟨e, hs⟩ | ⟨sy, x2, e, hs, hr⟩ | ⟨sy, x2, xx, nn, x3, hs, hr⟩
      ·
       refine w_seq ?_
       refine w_region ?_
       refine o_val (v_move rfl) rfl ?_
       refine o_val (v_move rfl) rfl ?_
       refine o_val (v_move rfl) rfl ?_
       refine o_val (v_nil rfl) rfl ?_
       refine o_val (v_fieldAddr V.f67_0 rfl) rfl ?_
       refine o_val (v_load V.s63 rfl (by repeat first | exact .head _ | apply List.Mem.tail) rfl) rfl ?_
       refine o_callE ((c_sym bc (InfP.toldC B a) bl B x [] 0 hy hl hB hx).err hs) V.b51 rfl (.cons (by repeat first | exact .head | apply Rem.tail) (.cons (by repeat first | exact .head | apply Rem.tail) .nil)) ?_
       rintro _ _ ⟨hp, rfl⟩
       refine (thn_p (blk_p (thn_p (blk_p (thn_p ?_)))))
       exact pe_pan (InfP.told_5 h14 ⟨hq1, hq2⟩ hta hy (hg.trans (InfP.lnGo_err (by omega) hf (InfP.lnStep_1 hs)))) hp (fold' (.cons (by repeat first | exact .head | apply Rem.tail) .nil) (by repeat first | exact .refl | apply Drop.skip) (fun w0 h hh => mx_close hh))
      ·
       refine w_seq ?_
       have hsz := InfP.sym_ok hy (by rw [InfP.toldC_len]; omega) hs
       rw [InfP.toldC_len] at hsz
       have hsy : 0 ≤ sy ∧ sy ≤ 18 := by omega
       have hx2 : x2 ≤ 8 * B.length := by omega
       refine w_region ?_
       refine o_val (v_move rfl) rfl ?_
       refine o_val (v_move rfl) rfl ?_
       refine o_val (v_move rfl) rfl ?_
       refine o_val (v_nil rfl) rfl ?_
       refine o_val (v_fieldAddr V.f67_0 rfl) rfl ?_
       refine o_val (v_load V.s63 rfl (by repeat first | exact .head _ | apply List.Mem.tail) rfl) rfl ?_
       refine o_call ((c_sym bc (InfP.toldC B a) bl B x [] 0 hy hl hB hx).ok hs) V.b51  rfl (.cons (by repeat first | exact .head | apply Rem.tail) (.cons (by repeat first | exact .head | apply Rem.tail) .nil)) rfl ?_
       rintro _ _ ⟨rfl, rfl⟩
       refine o_val (v_move rfl) rfl ?_
       refine o_callE ((c_rep b bl sz mo po no co li di s B x2 sy pr cr l hsy hl hB hx2 (by omega)).err hr) V.b59 rfl (.cons (by repeat first | exact .head | apply Rem.tail) (.cons (by repeat first | exact .head | apply Rem.tail) (.cons (by repeat first | exact .head | apply Rem.tail) .nil))) ?_
       rintro _ _ ⟨hp, rfl⟩
       refine (thn_p (blk_p (thn_p (blk_p (thn_p ?_)))))
       exact pe_pan (InfP.told_5 h14 ⟨hq1, hq2⟩ hta hy (hg.trans (InfP.lnGo_err (by omega) hf (InfP.lnStep_2 hs hr)))) hp (sub (.cons (by repeat first | exact .head | apply Rem.tail) .nil) (by repeat first | exact .refl | apply Drop.skip))
      ·
       refine w_seq ?_
       have hsz := InfP.sym_ok hy (by rw [InfP.toldC_len]; omega) hs
       rw [InfP.toldC_len] at hsz
       have hsy : 0 ≤ sy ∧ sy ≤ 18 := by omega
       have hx2 : x2 ≤ 8 * B.length := by omega
       have hrg := InfP.rep_good hx2 hr
       refine w_region ?_
       refine o_val (v_move rfl) rfl ?_
       refine o_val (v_move rfl) rfl ?_
       refine o_val (v_move rfl) rfl ?_
       refine o_val (v_nil rfl) rfl ?_
       refine o_val (v_fieldAddr V.f67_0 rfl) rfl ?_
       refine o_val (v_load V.s63 rfl (by repeat first | exact .head _ | apply List.Mem.tail) rfl) rfl ?_
       refine o_call ((c_sym bc (InfP.toldC B a) bl B x [] 0 hy hl hB hx).ok hs) V.b51  rfl (.cons (by repeat first | exact .head | apply Rem.tail) (.cons (by repeat first | exact .head | apply Rem.tail) .nil)) rfl ?_
       rintro _ _ ⟨rfl, rfl⟩
       refine o_val (v_move rfl) rfl ?_
       refine o_call ((c_rep b bl sz mo po no co li di s B x2 sy pr cr l hsy hl hB hx2 (by omega)).ok hr) V.b59  rfl (.cons (by repeat first | exact .head | apply Rem.tail) (.cons (by repeat first | exact .head | apply Rem.tail) (.cons (by repeat first | exact .head | apply Rem.tail) .nil))) rfl ?_
       rintro _ _ ⟨rfl, rfl⟩
       refine o_val (v_move rfl) rfl ?_
       refine o_val (v_extract rfl rfl) rfl ?_
       refine o_val (v_extract rfl rfl) rfl ?_
       refine o_val (v_assign rfl) rfl ?_
       refine o_val (v_assign rfl) rfl ?_
       refine o_nil ?_
       refine thn_n ?_
       refine w_seq ?_
       refine w_region ?_
       refine o_val (v_move rfl) rfl ?_
       refine o_val (v_move rfl) rfl ?_
       refine o_val (v_move rfl) rfl ?_
       refine o_call (c_rowI xx nn (by omega)) V.b56  rfl .nil rfl ?_
       rintro _ _ ⟨p78, c78, rfl, rfl⟩
       refine r_append (c := (I3)) V.sl30 V.z3 rfl rfl rfl rfl (by repeat first | exact .head | apply Rem.tail) (by first | exact own mm0 | exact own mm1 | exact own mm2 | exact own mm3 | exact own mm4 | exact own mm5 | exact own mm6 | exact own mm7 | exact own mm8 | exact own mm9 | exact own mm10 | exact own mm11 | exact (own mm1).take _ (by omega)) (by omega) rfl ?_
       intro p79 c79
       refine o_val (v_assign rfl) rfl ?_
       refine o_nil ?_
       refine thn_n ?_
       rcases (Nat.lt_or_ge (InfP.toldN B a) (l.length + nn.toNat)) with hbg | hbg
       ·
        refine w_region ?_
        refine o_val (v_move rfl) rfl ?_
        refine o_val (v_len (ty' := 0) Try.underlying30 rfl) rfl ?_
        refine o_val (v_move rfl) rfl ?_
        refine o_val (v_move rfl) rfl ?_
        refine o_val (v_add rfl rfl (wrapI (by omega) (by omega))) rfl ?_
        refine o_val (v_F (v_leq rfl rfl) (by omega)) rfl ?_
        refine o_callE (c_mustE 4) V.b47 rfl .nil ?_
        rintro _ _ ⟨rfl, rfl⟩
        refine (blk_p (thn_p (blk_p (thn_p ?_))))
        exact pe_pan (InfP.told_5 h14 ⟨hq1, hq2⟩ hta hy (hg.trans (InfP.lnGo_big (by omega) hf (InfP.lnStep_3 hs hr) (by rw [List.length_append, List.length_replicate]; omega)))) (PE.no (by decide)) (fold' (.cons (by repeat first | exact .head | apply Rem.tail) .nil) (by repeat first | exact .refl | apply Drop.skip) (fun w0 h hh => mx_close hh))
       ·
        refine w_region ?_
        refine o_val (v_move rfl) rfl ?_
        refine o_val (v_len (ty' := 0) Try.underlying30 rfl) rfl ?_
        refine o_val (v_move rfl) rfl ?_
        refine o_val (v_move rfl) rfl ?_
        refine o_val (v_add rfl rfl (wrapI (by omega) (by omega))) rfl ?_
        refine o_val (v_T (v_leq rfl rfl) (by omega)) rfl ?_
        refine o_call (c_must 4) V.b47  rfl .nil rfl ?_
        rintro _ _ ⟨rfl, rfl⟩
        refine o_nil ?_
        refine blk_n ?_
        rw [show l.length + nn.toNat = (l ++ List.replicate nn.toNat xx).length from by rw [List.length_append, List.length_replicate]]
        have hll : (l ++ List.replicate nn.toNat xx).length = l.length + nn.toNat := by rw [List.length_append, List.length_replicate]
        refine j5 (l ++ List.replicate nn.toNat xx) (f - 1) (x3) (_) (_) ?_ (.cons rfl (.cons rfl (.cons rfl (.cons rfl (.cons rfl (.nil _)))))) (sub (.cons (by repeat first | exact .head | apply Rem.tail) (.cons (by repeat first | exact .head | apply Rem.tail) (.cons (by repeat first | exact .head | apply Rem.tail) (.cons (by repeat first | exact .head | apply Rem.tail) .nil)))) (by repeat first | exact .refl | apply Drop.skip))
        exact ⟨⟨hg.trans (InfP.lnGo_next (by omega) hf (InfP.lnStep_3 hs hr) (by omega)), by omega, by omega, by omega⟩, by omega⟩
     ·
      refine w_exit ?_
      refine thn_e ?_
      refine thn_e ?_
      refine blk_x ?_
      refine thn_n ?_
      rcases (InfP.or3 (HuffP.newE (l.take (InfP.hL B a)) = 0) (HuffP.newE (l.drop (InfP.hL B a)) = 0)) with ⟨hc1, hc2⟩ | ⟨hc1, hc2⟩ | hc1
      ·
       refine w_seq ?_
       have hlt : l.length = InfP.toldN B a := by omega
       have hz := hg.trans (InfP.lnGo_end (B := B) (c := InfP.toldC B a) (f := f) (a := x) (show InfP.toldN B a ≤ l.length by omega))
       refine w_cap (p := pr) (n := l.length) (cap := cr) (l := l) (c := I3) (by repeat first | exact .head _ | apply List.Mem.tail) fun hcap => ?_
       refine w_net [⟨[], [], [0], 0, 0⟩, ⟨[], [], [0], 0, 0⟩, ⟨[], [], [9], 0, 0⟩, ⟨[], [], [2], 0, 0⟩, ⟨[2, 3], [2, 3], [], 0, 0⟩, ⟨[2, 3, 4], [4], [], 0, 0⟩, ⟨[], [], [9], 0, 0⟩, ⟨[], [], [2], 0, 0⟩, ⟨[6, 7], [6, 7], [], 0, 0⟩, ⟨[2, 3, 4, 5, 6, 7, 8], [8], [], 0, 0⟩, ⟨[0, 2, 3, 4, 5, 6, 7, 8, 9], [0], [], 0, 0⟩, ⟨[0, 2, 3, 4, 5, 6, 7, 8, 9, 10], [10], [], 0, 0⟩, ⟨[0, 2, 3, 4, 5, 6, 7, 8, 9, 10, 11], [11, 5], [], 0, 0⟩, ⟨[0, 1, 2, 3, 4, 5, 6, 7, 8, 9, 10, 11, 12], [1], [], 0, 0⟩, ⟨[0, 1, 2, 3, 4, 5, 6, 7, 8, 9, 10, 11, 12, 13], [13], [], 0, 0⟩, ⟨[0, 1, 2, 3, 4, 5, 6, 7, 8, 9, 10, 11, 12, 13, 14], [14, 9], [], 0, 0⟩] [⟨fun y => Row I3 pr l.length cr l, none, some 5, []⟩, ⟨fun y => HC bc (InfP.toldC B a), none, none, []⟩, ⟨fun y => Cel b 67 [.pointer (some ⟨bl, 0, none⟩), .int .i64 sz, .int .i64 mo, .slice po no co, .bool s.ended, .int .i64 0, .int .i64 s.kind, .int .i64 (s.left : Int), .bool s.last, li, di, .int .i64 (s.copies : Int), .int .i64 (s.far : Int)], none, some 12, []⟩, ⟨fun y => LW bl B x [] 0, none, none, []⟩, ⟨fun y => HC (ptB (y 5)) (l.take (InfP.hL B a)), some 5, none, []⟩, ⟨fun y => Row I3 pr l.length cr l, some 5, some 9, []⟩, ⟨fun y => HC (ptB (y 9)) (l.drop (InfP.hL B a)), some 9, none, []⟩, ⟨fun y => Row I3 pr l.length cr l, some 9, none, []⟩, ⟨fun y => Cel b 67 [.pointer (some ⟨bl, 0, none⟩), .int .i64 sz, .int .i64 mo, .slice po no co, .bool s.ended, .int .i64 0, .int .i64 s.kind, .int .i64 (s.left : Int), .bool s.last, .pointer (some ⟨ptB (y 5), 0, none⟩), di, .int .i64 (s.copies : Int), .int .i64 (s.far : Int)], some 12, some 15, []⟩, ⟨fun y => Cel b 67 [.pointer (some ⟨bl, 0, none⟩), .int .i64 sz, .int .i64 mo, .slice po no co, .bool s.ended, .int .i64 0, .int .i64 s.kind, .int .i64 (s.left : Int), .bool s.last, .pointer (some ⟨ptB (y 5), 0, none⟩), .pointer (some ⟨ptB (y 9), 0, none⟩), .int .i64 (s.copies : Int), .int .i64 (s.far : Int)], some 15, none, []⟩] F V.mixed (by kernel_rfl) rfl (fun _ => .refl _) (locT_0 _ (locT_0 _ (locT_0 _ (locT_0 _ (locT_1 [2, 3, 4] rfl (by intro y y2 h; simp only [h 5 (.inl rfl)]) (locT_1 [2, 3, 4] rfl (by intro y y2 h; rfl) (locT_1 [2, 3, 4, 5, 6, 7, 8] rfl (by intro y y2 h; simp only [h 9 (.inl rfl)]) (locT_1 [2, 3, 4, 5, 6, 7, 8] rfl (by intro y y2 h; rfl) (locT_1 [0, 2, 3, 4, 5, 6, 7, 8, 9, 10, 11] rfl (by intro y y2 h; simp only [h 5 (.inr (by decide))]) (locT_1 [0, 1, 2, 3, 4, 5, 6, 7, 8, 9, 10, 11, 12, 13, 14] rfl (by intro y y2 h; simp only [h 5 (.inr (by decide)), h 9 (.inr (by decide))]) locT_nil)))))))))) ?_
       refine net_pure (fun y => [(0, _)]) (fun y => rfl) rfl rfl rfl (fun y hA L => st_v (v_move rfl) ⟨rfl, rfl⟩) (by intros; rfl) (by intro y y2 h; rfl) ?_
       refine net_pure (fun y => [(0, _)]) (fun y => rfl) rfl rfl rfl (fun y hA L => st_v (v_move rfl) ⟨rfl, rfl⟩) (by intros; rfl) (by intro y y2 h; rfl) ?_
       refine net_pure (fun y => [(9, _)]) (fun y => rfl) rfl rfl rfl (fun y hA L => st_v (v_move rfl) ⟨rfl, rfl⟩) (by intros; rfl) (by intro y y2 h; rfl) ?_
       refine net_pure (fun y => [(2, _)]) (fun y => rfl) rfl rfl rfl (fun y hA L => st_v (v_move rfl) ⟨rfl, rfl⟩) (by intros; rfl) (by intro y y2 h; rfl) ?_
       refine net_pure (fun y => [(89, _), (90, _)]) (fun y => rfl) rfl rfl rfl (fun y hA L => st_v (v_slice0 (InfP.hL B a) _ V.sl30 rfl ⟨_, rfl⟩ rfl (by omega) (by omega)) ⟨rfl, rfl⟩) (by intros; rfl) (by intro y y2 h; rfl) ?_
       refine net_new (fun y v => .pointer (some ⟨ptB v, 0, none⟩)) (fun y v => True) (fun y => [Row I3 pr l.length cr l]) (fun y => []) (fun y v => [HC (ptB v) (l.take (InfP.hL B a)), Row I3 pr l.length cr l]) (fun y => [(91, _)]) (fun y => rfl) (fun y => rfl) (fun y => rfl) (fun y => rfl) (fun y FF hA => st_callP (A := fun z => HC z (l.take (InfP.hL B a))) (Post := [Row I3 pr l.length cr l]) (c_codeY pr (InfP.hL B a) cr (l.take (InfP.hL B a)) (Row I3 pr l.length cr l) (by first | (rw [List.length_take]; omega) | rw [List.length_drop]) (fun _ _ hh => row_take rfl (by omega) hh) hc1) V.b57 rfl (.cons (by repeat first | exact .head | apply Rem.tail) .nil)) (by intros; rfl) (by intros; rfl) (by intros; rfl) (by intro y y2 h; simp only [h 5 (.inl rfl)]) (by intro y y2 h; rfl) ?_
       refine net_pure (fun y => [(9, _)]) (fun y => rfl) rfl rfl rfl (fun y hA L => st_v (v_move rfl) ⟨rfl, rfl⟩) (by intros; rfl) (by intro y y2 h; rfl) ?_
       refine net_pure (fun y => [(2, _)]) (fun y => rfl) rfl rfl rfl (fun y hA L => st_v (v_move rfl) ⟨rfl, rfl⟩) (by intros; rfl) (by intro y y2 h; rfl) ?_
       refine net_pure (fun y => [(93, _), (94, _)]) (fun y => rfl) rfl rfl rfl (fun y hA L => st_v (v_slice (InfP.hL B a) _ _ V.sl30 rfl ⟨_, rfl⟩ ⟨rfl, rfl⟩ rfl (by omega) (by omega) (by omega)) ⟨rfl, rfl⟩) (by intros; rfl) (by intro y y2 h; rfl) ?_
       refine net_new (fun y v => .pointer (some ⟨ptB v, 0, none⟩)) (fun y v => True) (fun y => [Row I3 pr l.length cr l]) (fun y => []) (fun y v => [HC (ptB v) (l.drop (InfP.hL B a)), Row I3 pr l.length cr l]) (fun y => [(95, _)]) (fun y => rfl) (fun y => rfl) (fun y => rfl) (fun y => rfl) (fun y FF hA => st_callP (A := fun z => HC z (l.drop (InfP.hL B a))) (Post := [Row I3 pr l.length cr l]) (c_codeY (subP pr (InfP.hL B a) cr 1) (l.length - (InfP.hL B a)) (cr - (InfP.hL B a)) (l.drop (InfP.hL B a)) (Row I3 pr l.length cr l) (by first | (rw [List.length_take]; omega) | rw [List.length_drop]) (fun _ _ hh => row_drop rfl (by omega) hcap hh) hc2) V.b57 rfl (.cons (by repeat first | exact .head | apply Rem.tail) .nil)) (by intros; rfl) (by intros; rfl) (by intros; rfl) (by intro y y2 h; simp only [h 9 (.inl rfl)]) (by intro y y2 h; rfl) ?_
       refine net_pure (fun y => [(87, _)]) (fun y => rfl) rfl rfl rfl (fun y hA L => st_v (v_nil rfl) ⟨rfl, rfl⟩) (by intros; rfl) (by intro y y2 h; rfl) ?_
       refine net_pure (fun y => [(97, _)]) (fun y => rfl) rfl rfl rfl (fun y hA L => st_v (v_fieldAddr V.f67_9 rfl) ⟨rfl, rfl⟩) (by intros; rfl) (by intro y y2 h; rfl) ?_
       refine net_eff (fun y => [Cel b 67 [.pointer (some ⟨bl, 0, none⟩), .int .i64 sz, .int .i64 mo, .slice po no co, .bool s.ended, .int .i64 0, .int .i64 s.kind, .int .i64 (s.left : Int), .bool s.last, li, di, .int .i64 (s.copies : Int), .int .i64 (s.far : Int)]]) (fun y => []) (fun y => [Cel b 67 [.pointer (some ⟨bl, 0, none⟩), .int .i64 sz, .int .i64 mo, .slice po no co, .bool s.ended, .int .i64 0, .int .i64 s.kind, .int .i64 (s.left : Int), .bool s.last, .pointer (some ⟨ptB (y 5), 0, none⟩), di, .int .i64 (s.copies : Int), .int .i64 (s.far : Int)]]) (fun y => [(98, _), (92, _)]) (fun y => rfl) (fun y => rfl) (fun y => rfl) (fun y => rfl) (fun y FF hA => st_v (v_store V.s65 rfl rfl rfl (by repeat first | exact .head | apply Rep.tail) (by exact Nat.le_of_ble_eq_true rfl) rfl) ⟨rfl, .refl _⟩) (by intros; rfl) (by intros; rfl) (by intro y y2 h; first | rfl | simp only [h 5 (.inr (by decide))]) ?_
       refine net_pure (fun y => [(88, _)]) (fun y => rfl) rfl rfl rfl (fun y hA L => st_v (v_nil rfl) ⟨rfl, rfl⟩) (by intros; rfl) (by intro y y2 h; rfl) ?_
       refine net_pure (fun y => [(99, _)]) (fun y => rfl) rfl rfl rfl (fun y hA L => st_v (v_fieldAddr V.f67_10 rfl) ⟨rfl, rfl⟩) (by intros; rfl) (by intro y y2 h; rfl) ?_
       refine net_eff (fun y => [Cel b 67 [.pointer (some ⟨bl, 0, none⟩), .int .i64 sz, .int .i64 mo, .slice po no co, .bool s.ended, .int .i64 0, .int .i64 s.kind, .int .i64 (s.left : Int), .bool s.last, .pointer (some ⟨ptB (y 5), 0, none⟩), di, .int .i64 (s.copies : Int), .int .i64 (s.far : Int)]]) (fun y => []) (fun y => [Cel b 67 [.pointer (some ⟨bl, 0, none⟩), .int .i64 sz, .int .i64 mo, .slice po no co, .bool s.ended, .int .i64 0, .int .i64 s.kind, .int .i64 (s.left : Int), .bool s.last, .pointer (some ⟨ptB (y 5), 0, none⟩), .pointer (some ⟨ptB (y 9), 0, none⟩), .int .i64 (s.copies : Int), .int .i64 (s.far : Int)]]) (fun y => [(100, _), (96, _)]) (fun y => rfl) (fun y => rfl) (fun y => rfl) (fun y => rfl) (fun y FF hA => st_v (v_store V.s65 rfl rfl rfl (by repeat first | exact .head | apply Rep.tail) (by exact Nat.le_of_ble_eq_true rfl) rfl) ⟨rfl, .refl _⟩) (by intros; rfl) (by intros; rfl) (by intro y y2 h; first | rfl | simp only [h 9 (.inr (by decide))]) ?_
       refine net_nil ?_
       intro y hA
       clear hA
       refine thn_n ?_
       refine w_keep _ (.cons (d := 9) rfl (.nil _)) ?_
       refine w_sub (M := HC bc (InfP.toldC B a) :: LW bl B x [] 0 :: HC (ptB (y 5)) (l.take (InfP.hL B a)) :: HC (ptB (y 9)) (l.drop (InfP.hL B a)) :: Row I3 pr l.length cr l :: Cel b 67 [.pointer (some ⟨bl, 0, none⟩), .int .i64 sz, .int .i64 mo, .slice po no co, .bool s.ended, .int .i64 0, .int .i64 s.kind, .int .i64 (s.left : Int), .bool s.last, .pointer (some ⟨ptB (y 5), 0, none⟩), .pointer (some ⟨ptB (y 9), 0, none⟩), .int .i64 (s.copies : Int), .int .i64 (s.far : Int)] :: F) (fun _ _ h => h) ?_
       generalize (ptB (y 5)) = q92
       generalize (ptB (y 9)) = q96
       rcases (Classical.em (l.getD 256 0 = 0)) with hend | hend
       ·
        have hnn := InfP.code_nn hc1 256
        rw [InfP.getD_take (show 256 < InfP.hL B a by omega)] at hnn
        refine w_region ?_
        refine o_val (v_move rfl) rfl ?_
        refine o_val (r_index (c := (I3)) V.sl30 rfl rfl (by first | exact own mm0 | exact own mm1 | exact own mm2 | exact own mm3 | exact own mm4 | exact own mm5 | exact own mm6 | exact own mm7 | exact own mm8 | exact own mm9 | exact own mm10 | exact own mm11 | exact (own mm1).take _ (by omega)) (by omega) (by omega)) rfl ?_
        refine o_val (r_load (c := (I3)) V.s3 rfl (by first | exact own mm0 | exact own mm1 | exact own mm2 | exact own mm3 | exact own mm4 | exact own mm5 | exact own mm6 | exact own mm7 | exact own mm8 | exact own mm9 | exact own mm10 | exact own mm11 | exact (own mm1).take _ (by omega)) (by omega) (by omega) rfl rfl) rfl ?_
        refine o_val (v_F (v_gtr rfl rfl) (by rw [show I3.g l 256 = l.getD 256 0 from rfl]; omega)) rfl ?_
        refine o_callE (c_mustE 4) V.b47 rfl .nil ?_
        rintro _ _ ⟨rfl, rfl⟩
        skip
        exact pe_pan (InfP.told_6 h14 ⟨hq1, hq2⟩ hta hy hz (.inr (.inr hend))) (PE.no (by decide)) (fold' (.cons (by repeat first | exact .head | apply Rem.tail) .nil) (by repeat first | exact .refl | apply Drop.skip) (fun w0 h hh => mx_close hh))
       ·
        have hnn := InfP.code_nn hc1 256
        rw [InfP.getD_take (show 256 < InfP.hL B a by omega)] at hnn
        refine w_region ?_
        refine o_val (v_move rfl) rfl ?_
        refine o_val (r_index (c := (I3)) V.sl30 rfl rfl (by first | exact own mm0 | exact own mm1 | exact own mm2 | exact own mm3 | exact own mm4 | exact own mm5 | exact own mm6 | exact own mm7 | exact own mm8 | exact own mm9 | exact own mm10 | exact own mm11 | exact (own mm1).take _ (by omega)) (by omega) (by omega)) rfl ?_
        refine o_val (r_load (c := (I3)) V.s3 rfl (by first | exact own mm0 | exact own mm1 | exact own mm2 | exact own mm3 | exact own mm4 | exact own mm5 | exact own mm6 | exact own mm7 | exact own mm8 | exact own mm9 | exact own mm10 | exact own mm11 | exact (own mm1).take _ (by omega)) (by omega) (by omega) rfl rfl) rfl ?_
        refine o_val (v_T (v_gtr rfl rfl) (by rw [show I3.g l 256 = l.getD 256 0 from rfl]; omega)) rfl ?_
        refine o_call (c_must 4) V.b47  rfl .nil rfl ?_
        rintro _ _ ⟨rfl, rfl⟩
        refine o_nil ?_
        exact pe_end (InfP.told_7 h14 ⟨hq1, hq2⟩ hta hy hz hc1 hc2 hend) res0 ⟨_, _, rfl, rfl⟩ (sub (.cons (by repeat first | exact .head | apply Rem.tail) (.cons (by repeat first | exact .head | apply Rem.tail) (.cons (by repeat first | exact .head | apply Rem.tail) (.cons (by repeat first | exact .head | apply Rem.tail) .nil)))) (by repeat first | exact .refl | apply Drop.skip))
      ·
       refine w_seq ?_
       have hlt : l.length = InfP.toldN B a := by omega
       have hz := hg.trans (InfP.lnGo_end (B := B) (c := InfP.toldC B a) (f := f) (a := x) (show InfP.toldN B a ≤ l.length by omega))
       refine w_cap (p := pr) (n := l.length) (cap := cr) (l := l) (c := I3) (by repeat first | exact .head _ | apply List.Mem.tail) fun hcap => ?_
       refine w_net [⟨[], [], [0], 0, 0⟩, ⟨[], [], [0], 0, 0⟩, ⟨[], [], [9], 0, 0⟩, ⟨[], [], [2], 0, 0⟩, ⟨[2, 3], [2, 3], [], 0, 0⟩, ⟨[2, 3, 4], [4], [], 0, 0⟩, ⟨[], [], [9], 0, 0⟩, ⟨[], [], [2], 0, 0⟩, ⟨[6, 7], [6, 7], [], 0, 0⟩, ⟨[2, 3, 4, 5, 6, 7, 8], [8], [], 0, 0⟩, ⟨[0, 2, 3, 4, 5, 6, 7, 8, 9], [0], [], 0, 0⟩, ⟨[0, 2, 3, 4, 5, 6, 7, 8, 9, 10], [10], [], 0, 0⟩, ⟨[0, 2, 3, 4, 5, 6, 7, 8, 9, 10, 11], [11, 5], [], 0, 0⟩, ⟨[0, 1, 2, 3, 4, 5, 6, 7, 8, 9, 10, 11, 12], [1], [], 0, 0⟩, ⟨[0, 1, 2, 3, 4, 5, 6, 7, 8, 9, 10, 11, 12, 13], [13], [], 0, 0⟩, ⟨[0, 1, 2, 3, 4, 5, 6, 7, 8, 9, 10, 11, 12, 13, 14], [14, 9], [], 0, 0⟩] [⟨fun y => Row I3 pr l.length cr l, none, some 5, []⟩, ⟨fun y => HC bc (InfP.toldC B a), none, none, []⟩, ⟨fun y => Cel b 67 [.pointer (some ⟨bl, 0, none⟩), .int .i64 sz, .int .i64 mo, .slice po no co, .bool s.ended, .int .i64 0, .int .i64 s.kind, .int .i64 (s.left : Int), .bool s.last, li, di, .int .i64 (s.copies : Int), .int .i64 (s.far : Int)], none, none, [9]⟩, ⟨fun y => LW bl B x [] 0, none, none, []⟩, ⟨fun y => HC (ptB (y 5)) (l.take (InfP.hL B a)), some 5, none, []⟩, ⟨fun y => Row I3 pr l.length cr l, some 5, none, [9]⟩] F V.mixed (by kernel_rfl) rfl (fun _ => .refl _) (locT_0 _ (locT_0 _ (locT_0 _ (locT_0 _ (locT_1 [2, 3, 4] rfl (by intro y y2 h; simp only [h 5 (.inl rfl)]) (locT_1 [2, 3, 4] rfl (by intro y y2 h; rfl) locT_nil)))))) ?_
       refine net_pure (fun y => [(0, _)]) (fun y => rfl) rfl rfl rfl (fun y hA L => st_v (v_move rfl) ⟨rfl, rfl⟩) (by intros; rfl) (by intro y y2 h; rfl) ?_
       refine net_pure (fun y => [(0, _)]) (fun y => rfl) rfl rfl rfl (fun y hA L => st_v (v_move rfl) ⟨rfl, rfl⟩) (by intros; rfl) (by intro y y2 h; rfl) ?_
       refine net_pure (fun y => [(9, _)]) (fun y => rfl) rfl rfl rfl (fun y hA L => st_v (v_move rfl) ⟨rfl, rfl⟩) (by intros; rfl) (by intro y y2 h; rfl) ?_
       refine net_pure (fun y => [(2, _)]) (fun y => rfl) rfl rfl rfl (fun y hA L => st_v (v_move rfl) ⟨rfl, rfl⟩) (by intros; rfl) (by intro y y2 h; rfl) ?_
       refine net_pure (fun y => [(89, _), (90, _)]) (fun y => rfl) rfl rfl rfl (fun y hA L => st_v (v_slice0 (InfP.hL B a) _ V.sl30 rfl ⟨_, rfl⟩ rfl (by omega) (by omega)) ⟨rfl, rfl⟩) (by intros; rfl) (by intro y y2 h; rfl) ?_
       refine net_new (fun y v => .pointer (some ⟨ptB v, 0, none⟩)) (fun y v => True) (fun y => [Row I3 pr l.length cr l]) (fun y => []) (fun y v => [HC (ptB v) (l.take (InfP.hL B a)), Row I3 pr l.length cr l]) (fun y => [(91, _)]) (fun y => rfl) (fun y => rfl) (fun y => rfl) (fun y => rfl) (fun y FF hA => st_callP (A := fun z => HC z (l.take (InfP.hL B a))) (Post := [Row I3 pr l.length cr l]) (c_codeY pr (InfP.hL B a) cr (l.take (InfP.hL B a)) (Row I3 pr l.length cr l) (by first | (rw [List.length_take]; omega) | rw [List.length_drop]) (fun _ _ hh => row_take rfl (by omega) hh) hc1) V.b57 rfl (.cons (by repeat first | exact .head | apply Rem.tail) .nil)) (by intros; rfl) (by intros; rfl) (by intros; rfl) (by intro y y2 h; simp only [h 5 (.inl rfl)]) (by intro y y2 h; rfl) ?_
       refine net_pure (fun y => [(9, _)]) (fun y => rfl) rfl rfl rfl (fun y hA L => st_v (v_move rfl) ⟨rfl, rfl⟩) (by intros; rfl) (by intro y y2 h; rfl) ?_
       refine net_pure (fun y => [(2, _)]) (fun y => rfl) rfl rfl rfl (fun y hA L => st_v (v_move rfl) ⟨rfl, rfl⟩) (by intros; rfl) (by intro y y2 h; rfl) ?_
       refine net_pure (fun y => [(93, _), (94, _)]) (fun y => rfl) rfl rfl rfl (fun y hA L => st_v (v_slice (InfP.hL B a) _ _ V.sl30 rfl ⟨_, rfl⟩ ⟨rfl, rfl⟩ rfl (by omega) (by omega) (by omega)) ⟨rfl, rfl⟩) (by intros; rfl) (by intro y y2 h; rfl) ?_
       refine net_pan (undef) (fun y => [Cel b 67 [.pointer (some ⟨bl, 0, none⟩), .int .i64 sz, .int .i64 mo, .slice po no co, .bool s.ended, .int .i64 0, .int .i64 s.kind, .int .i64 (s.left : Int), .bool s.last, li, di, .int .i64 (s.copies : Int), .int .i64 (s.far : Int)], Row I3 pr l.length cr l]) (fun y => [(95, _)]) (fun y => rfl) rfl (fun y => rfl) (fun y FF hA => st_callE (c_codeX (subP pr (InfP.hL B a) cr 1) (l.length - (InfP.hL B a)) (cr - (InfP.hL B a)) (l.drop (InfP.hL B a)) (Row I3 pr l.length cr l) (by first | (rw [List.length_take]; omega) | rw [List.length_drop]) (fun _ _ hh => row_drop rfl (by omega) hcap hh) hc2) V.b57 rfl (.cons (by repeat first | exact .head | apply Rem.tail) .nil) (by rintro _ _ ⟨hp, rfl⟩; exact x_pe (InfP.told_6 h14 ⟨hq1, hq2⟩ hta hy hz (.inr (.inl hc2))) hp (fold' (.cons (by repeat first | exact .head | apply Rem.tail) .nil) (by first | exact dp0 (M := FF) (F := F) | exact dp1 (M := FF) (F := F) | exact dp2 (M := FF) (F := F) | exact dp3 (M := FF) (F := F) | exact dp4 (M := FF) (F := F) | exact dp5 (M := FF) (F := F) | exact dp6 (M := FF) (F := F) | exact dp7 (M := FF) (F := F) | exact dp8 (M := FF) (F := F) | exact dp9 (M := FF) (F := F)) (fun w0 h hh => mx_close hh)))) ?_
       refine net_pan (.bool true) (fun y => []) (fun y => [(87, _)]) (fun y => rfl) rfl (fun y => rfl) (fun y FF hA => (KnN.fact (hA 9 (by decide)) (q := fun _ => False) rfl).elim) ?_
       refine net_pan (.bool true) (fun y => []) (fun y => [(97, _)]) (fun y => rfl) rfl (fun y => rfl) (fun y FF hA => (KnN.fact (hA 9 (by decide)) (q := fun _ => False) rfl).elim) ?_
       refine net_pan (.bool true) (fun y => []) (fun y => [(98, _), (92, _)]) (fun y => rfl) rfl (fun y => rfl) (fun y FF hA => (KnN.fact (hA 9 (by decide)) (q := fun _ => False) rfl).elim) ?_
       refine net_pan (.bool true) (fun y => []) (fun y => [(88, _)]) (fun y => rfl) rfl (fun y => rfl) (fun y FF hA => (KnN.fact (hA 9 (by decide)) (q := fun _ => False) rfl).elim) ?_
       refine net_pan (.bool true) (fun y => []) (fun y => [(99, _)]) (fun y => rfl) rfl (fun y => rfl) (fun y FF hA => (KnN.fact (hA 9 (by decide)) (q := fun _ => False) rfl).elim) ?_
       refine net_pan (.bool true) (fun y => []) (fun y => [(100, _), (96, _)]) (fun y => rfl) rfl (fun y => rfl) (fun y FF hA => (KnN.fact (hA 9 (by decide)) (q := fun _ => False) rfl).elim) ?_
       refine net_nil ?_
       intro y hA
       exact (KnN.fact (hA 9 (by exact Nat.le_of_ble_eq_true rfl)) (q := fun _ => False) rfl).elim
      ·
       refine w_seq ?_
       have hlt : l.length = InfP.toldN B a := by omega
       have hz := hg.trans (InfP.lnGo_end (B := B) (c := InfP.toldC B a) (f := f) (a := x) (show InfP.toldN B a ≤ l.length by omega))
       refine w_cap (p := pr) (n := l.length) (cap := cr) (l := l) (c := I3) (by repeat first | exact .head _ | apply List.Mem.tail) fun hcap => ?_
       refine w_net [⟨[], [], [0], 0, 0⟩, ⟨[], [], [0], 0, 0⟩, ⟨[], [], [9], 0, 0⟩, ⟨[], [], [2], 0, 0⟩, ⟨[2, 3], [2, 3], [], 0, 0⟩, ⟨[2, 3, 4], [4], [], 0, 0⟩, ⟨[], [], [9], 0, 0⟩, ⟨[], [], [2], 0, 0⟩, ⟨[6, 7], [6, 7], [], 0, 0⟩, ⟨[2, 3, 4, 5, 6, 7, 8], [8], [], 0, 0⟩, ⟨[0, 2, 3, 4, 5, 6, 7, 8, 9], [0], [], 0, 0⟩, ⟨[0, 2, 3, 4, 5, 6, 7, 8, 9, 10], [10], [], 0, 0⟩, ⟨[0, 2, 3, 4, 5, 6, 7, 8, 9, 10, 11], [11, 5], [], 0, 0⟩, ⟨[0, 1, 2, 3, 4, 5, 6, 7, 8, 9, 10, 11, 12], [1], [], 0, 0⟩, ⟨[0, 1, 2, 3, 4, 5, 6, 7, 8, 9, 10, 11, 12, 13], [13], [], 0, 0⟩, ⟨[0, 1, 2, 3, 4, 5, 6, 7, 8, 9, 10, 11, 12, 13, 14], [14, 9], [], 0, 0⟩] [⟨fun y => Row I3 pr l.length cr l, none, none, [5]⟩, ⟨fun y => HC bc (InfP.toldC B a), none, none, []⟩, ⟨fun y => Cel b 67 [.pointer (some ⟨bl, 0, none⟩), .int .i64 sz, .int .i64 mo, .slice po no co, .bool s.ended, .int .i64 0, .int .i64 s.kind, .int .i64 (s.left : Int), .bool s.last, li, di, .int .i64 (s.copies : Int), .int .i64 (s.far : Int)], none, none, [5]⟩, ⟨fun y => LW bl B x [] 0, none, none, []⟩] F V.mixed (by kernel_rfl) rfl (fun _ => .refl _) (locT_0 _ (locT_0 _ (locT_0 _ (locT_0 _ locT_nil)))) ?_
       refine net_pure (fun y => [(0, _)]) (fun y => rfl) rfl rfl rfl (fun y hA L => st_v (v_move rfl) ⟨rfl, rfl⟩) (by intros; rfl) (by intro y y2 h; rfl) ?_
       refine net_pure (fun y => [(0, _)]) (fun y => rfl) rfl rfl rfl (fun y hA L => st_v (v_move rfl) ⟨rfl, rfl⟩) (by intros; rfl) (by intro y y2 h; rfl) ?_
       refine net_pure (fun y => [(9, _)]) (fun y => rfl) rfl rfl rfl (fun y hA L => st_v (v_move rfl) ⟨rfl, rfl⟩) (by intros; rfl) (by intro y y2 h; rfl) ?_
       refine net_pure (fun y => [(2, _)]) (fun y => rfl) rfl rfl rfl (fun y hA L => st_v (v_move rfl) ⟨rfl, rfl⟩) (by intros; rfl) (by intro y y2 h; rfl) ?_
       refine net_pure (fun y => [(89, _), (90, _)]) (fun y => rfl) rfl rfl rfl (fun y hA L => st_v (v_slice0 (InfP.hL B a) _ V.sl30 rfl ⟨_, rfl⟩ rfl (by omega) (by omega)) ⟨rfl, rfl⟩) (by intros; rfl) (by intro y y2 h; rfl) ?_
       refine net_pan (undef) (fun y => [Row I3 pr l.length cr l, Cel b 67 [.pointer (some ⟨bl, 0, none⟩), .int .i64 sz, .int .i64 mo, .slice po no co, .bool s.ended, .int .i64 0, .int .i64 s.kind, .int .i64 (s.left : Int), .bool s.last, li, di, .int .i64 (s.copies : Int), .int .i64 (s.far : Int)]]) (fun y => [(91, _)]) (fun y => rfl) rfl (fun y => rfl) (fun y FF hA => st_callE (c_codeX pr (InfP.hL B a) cr (l.take (InfP.hL B a)) (Row I3 pr l.length cr l) (by first | (rw [List.length_take]; omega) | rw [List.length_drop]) (fun _ _ hh => row_take rfl (by omega) hh) hc1) V.b57 rfl (.cons (by repeat first | exact .head | apply Rem.tail) .nil) (by rintro _ _ ⟨hp, rfl⟩; exact x_pe (InfP.told_6 h14 ⟨hq1, hq2⟩ hta hy hz (.inl hc1)) hp (fold' (.cons (by repeat first | exact .head | apply Rem.tail) .nil) (by first | exact dp0 (M := FF) (F := F) | exact dp1 (M := FF) (F := F) | exact dp2 (M := FF) (F := F) | exact dp3 (M := FF) (F := F) | exact dp4 (M := FF) (F := F) | exact dp5 (M := FF) (F := F) | exact dp6 (M := FF) (F := F) | exact dp7 (M := FF) (F := F) | exact dp8 (M := FF) (F := F) | exact dp9 (M := FF) (F := F)) (fun w0 h hh => mx_close hh)))) ?_
       refine net_pure (fun y => [(9, _)]) (fun y => rfl) rfl rfl rfl (fun y hA L => st_v (v_move rfl) ⟨rfl, rfl⟩) (by intros; rfl) (by intro y y2 h; rfl) ?_
       refine net_pure (fun y => [(2, _)]) (fun y => rfl) rfl rfl rfl (fun y hA L => st_v (v_move rfl) ⟨rfl, rfl⟩) (by intros; rfl) (by intro y y2 h; rfl) ?_
       refine net_pure (fun y => [(93, _), (94, _)]) (fun y => rfl) rfl rfl rfl (fun y hA L => st_v (v_slice (InfP.hL B a) _ _ V.sl30 rfl ⟨_, rfl⟩ ⟨rfl, rfl⟩ rfl (by omega) (by omega) (by omega)) ⟨rfl, rfl⟩) (by intros; rfl) (by intro y y2 h; rfl) ?_
       refine net_pan (.bool true) (fun y => []) (fun y => [(95, _)]) (fun y => rfl) rfl (fun y => rfl) (fun y FF hA => (KnN.fact (hA 5 (by decide)) (q := fun _ => False) rfl).elim) ?_
       refine net_pan (.bool true) (fun y => []) (fun y => [(87, _)]) (fun y => rfl) rfl (fun y => rfl) (fun y FF hA => (KnN.fact (hA 5 (by decide)) (q := fun _ => False) rfl).elim) ?_
       refine net_pan (.bool true) (fun y => []) (fun y => [(97, _)]) (fun y => rfl) rfl (fun y => rfl) (fun y FF hA => (KnN.fact (hA 5 (by decide)) (q := fun _ => False) rfl).elim) ?_
       refine net_pan (.bool true) (fun y => []) (fun y => [(98, _), (92, _)]) (fun y => rfl) rfl (fun y => rfl) (fun y FF hA => (KnN.fact (hA 5 (by decide)) (q := fun _ => False) rfl).elim) ?_
       refine net_pan (.bool true) (fun y => []) (fun y => [(88, _)]) (fun y => rfl) rfl (fun y => rfl) (fun y FF hA => (KnN.fact (hA 5 (by decide)) (q := fun _ => False) rfl).elim) ?_
       refine net_pan (.bool true) (fun y => []) (fun y => [(99, _)]) (fun y => rfl) rfl (fun y => rfl) (fun y FF hA => (KnN.fact (hA 5 (by decide)) (q := fun _ => False) rfl).elim) ?_
       refine net_pan (.bool true) (fun y => []) (fun y => [(100, _), (96, _)]) (fun y => rfl) rfl (fun y => rfl) (fun y FF hA => (KnN.fact (hA 5 (by decide)) (q := fun _ => False) rfl).elim) ?_
       refine net_nil ?_
       intro y hA
       exact (KnN.fact (hA 5 (by exact Nat.le_of_ble_eq_true rfl)) (q := fun _ => False) rfl).elim
    ·
     refine w_seq ?_
     have hkC : k = InfP.hC B a := by omega
     rw [show InfP.frs B (a + 14) k = InfP.toldC B a from by rw [hkC]; exact (InfP.toldC_eq B a).symm, show a + 14 + 3 * k = InfP.toldA B a from by omega]
     have hta : InfP.toldA B a ≤ 8 * B.length := by omega
     refine w_region ?_
     refine o_val (v_move rfl) rfl ?_
     refine o_callE (c_codeX p37 19 c37 (InfP.toldC B a) (Row I3 p37 19 c37 (InfP.toldC B a)) (InfP.toldC_len B a).symm (fun _ _ hh => row_rd (InfP.toldC_len B a).symm hh) hy) V.b57 rfl (.cons (by repeat first | exact .head | apply Rem.tail) .nil) ?_
     rintro _ _ ⟨hp, rfl⟩
     refine (thn_p ?_)
     exact pe_pan (InfP.told_4 h14 ⟨hq1, hq2⟩ hta hy) hp (fold' (.cons (by repeat first | exact .head | apply Rem.tail) .nil) (by repeat first | exact .refl | apply Drop.skip) (fun w0 h hh => mx_close hh))
  ·
   refine w_seq ?_
   rw [he1, he2, he3]
   refine w_region ?_
   refine o_val (v_move rfl) rfl ?_
   refine o_val (v_T (v_leq rfl rfl) (by omega)) rfl ?_
   refine o_val (v_move rfl) rfl ?_
   refine o_want rfl ?_
   refine o_val (v_move rfl) rfl ?_
   refine o_want rfl ?_
   refine o_val (v_F (v_leq rfl rfl) (by omega)) rfl ?_
   refine o_val (v_pickT rfl rfl) rfl ?_
   refine o_callE (c_mustE 4) V.b47 rfl .nil ?_
   rintro _ _ ⟨rfl, rfl⟩
   refine (thn_p ?_)
   exact pe_pan (InfP.told_2 h14 (by omega)) (PE.no (by decide)) (fold' (.cons (by repeat first | exact .head | apply Rem.tail) .nil) (by repeat first | exact .refl | apply Drop.skip) (fun w0 h hh => mx_close hh))
  ·
   refine w_seq ?_
   rw [he1, he2, he3]
   refine w_region ?_
   refine o_val (v_move rfl) rfl ?_
   refine o_val (v_F (v_leq rfl rfl) (by omega)) rfl ?_
   refine o_val (v_move rfl) rfl ?_
   refine o_pass rfl rfl rfl ?_
   refine o_pass rfl rfl rfl ?_
   refine o_val (v_pickF rfl rfl) rfl ?_
   refine o_callE (c_mustE 4) V.b47 rfl .nil ?_
   rintro _ _ ⟨rfl, rfl⟩
   refine (thn_p ?_)
   exact pe_pan (InfP.told_2 h14 (by omega)) (PE.no (by decide)) (fold' (.cons (by repeat first | exact .head | apply Rem.tail) .nil) (by repeat first | exact .refl | apply Drop.skip) (fun w0 h hh => mx_close hh))
end Go.Proofs.Ytoplcgkafaoafaa

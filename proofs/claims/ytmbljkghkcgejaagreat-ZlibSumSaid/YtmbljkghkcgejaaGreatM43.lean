/- Walks of functions that the law reaches, and what they lean on; no conditions. -/
import Derived.Test.YtmbljkghkcgejaaGreatM30
import Derived.Test.YtmbljkghkcgejaaGreatSl22
import Derived.KernelRfl
import Derived.Test.YtmbljkghkcgejaaGreatM42
import Derived.Test.YtmbljkghkcgejaaGreatM32
set_option linter.unusedVariables false
set_option linter.unusedSimpArgs false
set_option maxRecDepth 100000
namespace Go.Proofs.YtmbljkghkcgejaaGreat
open Go.Sl 
theorem TTZiW : okT Tryz.prog ⟨[22], [(75, 0, 0), (75, 3, 3), (75, 4, 4), (75, 5, 5)]⟩ = true := by kernel_rfl
attribute [local irreducible] HuffP.newE HuffP.tk HuffP.ord HuffP.cntL HuffP.words HuffP.mostL InfP.frs InfP.toldC InfP.toldN InfP.toldA InfP.hL InfP.hD InfP.hC InfP.lnGo InfP.told InfP.fixL InfP.codeE InfP.rep InfP.lenE InfP.awayE InfP.sym InfP.alg BitP.numL InfP.coded InfP.begin_ InfP.one InfP.put_
set_option maxHeartbeats 2000000 in
theorem c_stepNo (b bl : Nat) (sz mo : Int) (B : List Int) (s : InfP.St) (n : Int) (hok : InfP.Ok B mo s) (hm : mo < 1000000000) (hx : n < 1 ∨ s.ended = true) : Ctr Tryz.prog 22 [.pointer (some ⟨b, 0, none⟩), .int .i64 n] [MM b bl sz mo B s] (Ret fun v G => v = .bool s.ended ∧ G = [MM b bl sz mo B s]) := by
 refine spec_of [(0, _), (1, _)] Tryz.func22 rfl Tryz.ntmps22 rfl rfl ?_
 intro w0 F
 have hro := hok.room
 refine w_opnR rr0 (fun h hh => mm_open hh) ?_
 rintro ⟨li, di⟩ _
 dsimp only
 simp only [List.cons_append, List.nil_append]
 refine w_opn (fun h hh => ms_open hh) ?_
 rintro ⟨po, co⟩ _
 dsimp only
 simp only [List.cons_append, List.nil_append]
 refine rT TTZiW 2 rfl ?_
 refine o_box rfl (cs := [_]) rfl rfl ?_
 intro b2
 refine o_box rfl (cs := [_]) rfl rfl ?_
 intro b3
 refine rO TTZiW 6 rfl ?_
 refine oV (v_load V.s50 rfl mm1 rfl) ?_
 refine oV (v_to (v := .bool false) (v_eqnil Tryz.underlying50 rfl rfl) rfl) ?_
 refine oV (v_move rfl) ?_
 refine o_want rfl ?_
 refine oV (v_load V.s50 rfl mm1 rfl) ?_
 refine rO TTZiW 2 rfl ?_
 refine o_want rfl ?_
 refine oV (v_load V.s71 rfl mm2 rfl) ?_
 refine o_want rfl ?_
 refine oV (v_to (v := .bool false) (v_eqnil Tryz.underlying71 rfl rfl) rfl) ?_
 refine rO TTZiW 6 rfl ?_
 rcases (Classical.em (n < 1)) with h1 | h1
 ·refine rC TTZiW 3 rfl ?_
  refine oV (v_load V.s3 rfl mm0 rfl) ?_
  refine oV (v_T (v_lss rfl rfl) h1) ?_
  refine rO TTZiW 11 rfl ?_
  refine oV (v_load V.s50 rfl mm1 rfl) ?_
  refine rO TTZiW 2 rfl ?_
  refine oV (v_load V.s4 rfl mm2 rfl) ?_
  refine rO TTZiW 5 rfl ?_
  exact ret_ok (res1 rfl) ⟨rfl, rfl⟩ (Sl.Sub.trans ((fold' (.cons rr2 (.cons rr2 .nil)) .refl (fun w0 h hh => ms_close (s := s) rfl hh)).trans (fold' (rz1 (.cons rr2 (.cons rr2 .nil))) .refl (fun w0 h hh => mm_closeD (s := s) hh))) (sub (rz1 .nil) dd2))
 ·refine rC TTZiW 3 rfl ?_
  refine oV (v_load V.s3 rfl mm0 rfl) ?_
  refine oV (v_F (v_lss rfl rfl) h1) ?_
  refine oV (v_move rfl) ?_
  refine o_want rfl ?_
  refine oV (v_load V.s50 rfl mm1 rfl) ?_
  refine rO TTZiW 2 rfl ?_
  refine o_want rfl ?_
  refine oV (v_to (v := .bool true) (v_load V.s4 rfl mm2 rfl) (by rw [hx.resolve_left h1])) ?_
  refine rO TTZiW 6 rfl ?_
  refine oV (v_load V.s50 rfl mm1 rfl) ?_
  refine rO TTZiW 2 rfl ?_
  refine oV (v_load V.s4 rfl mm2 rfl) ?_
  refine rO TTZiW 5 rfl ?_
  exact ret_ok (res1 rfl) ⟨rfl, rfl⟩ (Sl.Sub.trans ((fold' (.cons rr2 (.cons rr2 .nil)) .refl (fun w0 h hh => ms_close (s := s) rfl hh)).trans (fold' (rz1 (.cons rr2 (.cons rr2 .nil))) .refl (fun w0 h hh => mm_closeD (s := s) hh))) (sub (rz1 .nil) dd2))
set_option maxHeartbeats 2000000 in
theorem c_stepOk (b bl : Nat) (sz mo : Int) (B : List Int) (s : InfP.St) (n : Int) (hl : B.length < 500000000) (hB : BitP.Byt B) (hn : 1 ≤ n) (hok : InfP.Ok B mo s) (hm : mo < 1000000000) (he : s.ended = false) (s2 : InfP.St) (hlp : InfP.Lp B mo s.out.length n s (.ok s2)) : Ctr Tryz.prog 22 [.pointer (some ⟨b, 0, none⟩), .int .i64 n] [MM b bl sz mo B s] (Ret fun v G => v = .bool s2.ended ∧ G = [MM b bl sz mo B s2]) := by
 refine spec_of [(0, _), (1, _)] Tryz.func22 rfl Tryz.ntmps22 rfl rfl ?_
 intro w0 F
 have hro := hok.room
 refine w_opnR rr0 (fun h hh => mm_open hh) ?_
 rintro ⟨li, di⟩ _
 dsimp only
 simp only [List.cons_append, List.nil_append]
 refine w_opn (fun h hh => ms_open hh) ?_
 rintro ⟨po, co⟩ _
 dsimp only
 simp only [List.cons_append, List.nil_append]
 refine rT TTZiW 2 rfl ?_
 refine o_box rfl (cs := [_]) rfl rfl ?_
 intro b2
 refine o_box rfl (cs := [_]) rfl rfl ?_
 intro b3
 refine rO TTZiW 6 rfl ?_
 refine oV (v_load V.s50 rfl mm1 rfl) ?_
 refine oV (v_to (v := .bool false) (v_eqnil Tryz.underlying50 rfl rfl) rfl) ?_
 refine oV (v_move rfl) ?_
 refine o_want rfl ?_
 refine oV (v_load V.s50 rfl mm1 rfl) ?_
 refine rO TTZiW 2 rfl ?_
 refine o_want rfl ?_
 refine oV (v_load V.s71 rfl mm2 rfl) ?_
 refine o_want rfl ?_
 refine oV (v_to (v := .bool false) (v_eqnil Tryz.underlying71 rfl rfl) rfl) ?_
 refine rO TTZiW 9 rfl ?_
 refine oV (v_load V.s3 rfl mm0 rfl) ?_
 refine oV (v_F (v_lss rfl rfl) (by omega)) ?_
 refine oV (v_move rfl) ?_
 refine o_want rfl ?_
 refine oV (v_load V.s50 rfl mm1 rfl) ?_
 refine rO TTZiW 2 rfl ?_
 refine o_want rfl ?_
 refine oV (v_to (v := .bool false) (v_load V.s4 rfl mm2 rfl) (by rw [he])) ?_
 refine rO TTZiW 8 rfl ?_
 refine oV (v_load V.s50 rfl mm1 rfl) ?_
 refine rO TTZiW 2 rfl ?_
 refine oV (v_load V.s22 rfl mm2 rfl) ?_
 refine oV (v_len (ty' := 0) Tryz.underlying22 rfl) ?_
 refine o_alloc V.z3 rfl ?_
 intro b5
 refine o_eff (v_store V.s3 rfl rfl rfl (by exact pp0) (by exact Nat.le_of_ble_eq_true rfl) rfl) ?_
 refine rO TTZiW 3 rfl ?_
 refine w_sub (Sl.Sub.trans (fold' (.cons rr3 (.cons rr3 .nil)) .refl (fun w0 h hh => ms_close (s := s) rfl hh)) (fold' (rz1 (.cons rr3 (.cons rr3 .nil))) .refl (fun w0 h hh => mm_closeD (s := s) hh))) ?_
 refine w_region ?_
 refine oV (v_fn (fs := []) (cs := [_, _, _]) rfl rfl) ?_
 refine o_call (tried_ok (f := 38) (cs := [.pointer (some ⟨b2, 0, none⟩), .pointer (some ⟨b5, 0, none⟩), .pointer (some ⟨b3, 0, none⟩)]) (R := fun G => G = [Cel b2 50 [.pointer (some ⟨b, 0, none⟩)], Cel b5 3 [.int .i64 (s.out.length : Int)], Cel b3 3 [.int .i64 n], MM b bl sz mo B s2]) (Ctr.fgt ((c_step1 b2 b5 b3 b bl sz mo s.out.length n s (.ok s2) B hl hB hm (by omega) hok hlp).ok rfl)) V.b38) V.b37  rfl (.cons rr3 (.cons rr1 (.cons rr1 (rz1 .nil)))) rfl ?_
 rintro _ _ ⟨rfl, rfl⟩
 refine rO TTZiW 7 rfl ?_
 refine oV (v_F (v_neq rfl rfl) (by decide)) ?_
 refine rO TTZiW 6 rfl ?_
 refine w_opnR rr3 (fun h hh => mm_open hh) ?_
 rintro ⟨li2, di2⟩ _
 dsimp only
 simp only [List.cons_append, List.nil_append]
 refine w_opn (fun h hh => ms_open hh) ?_
 rintro ⟨po2, co2⟩ _
 dsimp only
 simp only [List.cons_append, List.nil_append]
 refine w_region ?_
 refine oV (v_load V.s50 rfl mm4 rfl) ?_
 refine rO TTZiW 2 rfl ?_
 refine oV (v_load V.s4 rfl mm0 rfl) ?_
 refine rO TTZiW 4 rfl ?_
 exact ret_ok (res1 rfl) ⟨rfl, rfl⟩ (Sl.Sub.trans ((fold' (rz2 .nil) .refl (fun w0 h hh => ms_close (s := s2) rfl hh)).trans (fold' (rz3 .nil) .refl (fun w0 h hh => mm_closeD (s := s2) hh))) (sub (rz1 .nil) dd3))
theorem mx_open {b bl : Nat} {sz mo : Int} {w0 : World} {h : Hp} (hh : MX b bl sz mo w0 h) : ∃ i : Vx, True ∧ sats w0 [Cel b 75 [.pointer (some ⟨bl, 0, none⟩), .int .i64 sz, .int .i64 mo, i.v3, i.v4, i.v5, i.v6, i.v7, i.v8, i.v9, i.v10, i.v11, i.v12]] h := hh
theorem md_open {b bl : Nat} {sz mo e : Int} {w0 : World} {h : Hp} (hh : MD b bl sz mo e w0 h) : ∃ i : Vx, True ∧ sats w0 [Cel b 75 [.pointer (some ⟨bl, 0, none⟩), .int .i64 sz, .int .i64 mo, .slice none 0 0, .bool true, .int .i64 e, i.v6, i.v7, i.v8, i.v9, i.v10, i.v11, i.v12]] h := hh
set_option maxHeartbeats 2000000 in
theorem c_stepEr (b bl : Nat) (sz mo : Int) (B : List Int) (s : InfP.St) (n : Int) (hl : B.length < 500000000) (hB : BitP.Byt B) (hn : 1 ≤ n) (hok : InfP.Ok B mo s) (hm : mo < 1000000000) (he : s.ended = false) (e : Int) (hE : e ≠ 0) (hlp : InfP.Lp B mo s.out.length n s (.error e)) : Ctr Tryz.prog 22 [.pointer (some ⟨b, 0, none⟩), .int .i64 n] [MM b bl sz mo B s] (Ret fun v G => v = .bool true ∧ G = [MD b bl sz mo e]) := by
 refine spec_of [(0, _), (1, _)] Tryz.func22 rfl Tryz.ntmps22 rfl rfl ?_
 intro w0 F
 have hro := hok.room
 refine w_opnR rr0 (fun h hh => mm_open hh) ?_
 rintro ⟨li, di⟩ _
 dsimp only
 simp only [List.cons_append, List.nil_append]
 refine w_opn (fun h hh => ms_open hh) ?_
 rintro ⟨po, co⟩ _
 dsimp only
 simp only [List.cons_append, List.nil_append]
 refine rT TTZiW 2 rfl ?_
 refine o_box rfl (cs := [_]) rfl rfl ?_
 intro b2
 refine o_box rfl (cs := [_]) rfl rfl ?_
 intro b3
 refine rO TTZiW 6 rfl ?_
 refine oV (v_load V.s50 rfl mm1 rfl) ?_
 refine oV (v_to (v := .bool false) (v_eqnil Tryz.underlying50 rfl rfl) rfl) ?_
 refine oV (v_move rfl) ?_
 refine o_want rfl ?_
 refine oV (v_load V.s50 rfl mm1 rfl) ?_
 refine rO TTZiW 2 rfl ?_
 refine o_want rfl ?_
 refine oV (v_load V.s71 rfl mm2 rfl) ?_
 refine o_want rfl ?_
 refine oV (v_to (v := .bool false) (v_eqnil Tryz.underlying71 rfl rfl) rfl) ?_
 refine rO TTZiW 9 rfl ?_
 refine oV (v_load V.s3 rfl mm0 rfl) ?_
 refine oV (v_F (v_lss rfl rfl) (by omega)) ?_
 refine oV (v_move rfl) ?_
 refine o_want rfl ?_
 refine oV (v_load V.s50 rfl mm1 rfl) ?_
 refine rO TTZiW 2 rfl ?_
 refine o_want rfl ?_
 refine oV (v_to (v := .bool false) (v_load V.s4 rfl mm2 rfl) (by rw [he])) ?_
 refine rO TTZiW 8 rfl ?_
 refine oV (v_load V.s50 rfl mm1 rfl) ?_
 refine rO TTZiW 2 rfl ?_
 refine oV (v_load V.s22 rfl mm2 rfl) ?_
 refine oV (v_len (ty' := 0) Tryz.underlying22 rfl) ?_
 refine o_alloc V.z3 rfl ?_
 intro b5
 refine o_eff (v_store V.s3 rfl rfl rfl (by exact pp0) (by exact Nat.le_of_ble_eq_true rfl) rfl) ?_
 refine rO TTZiW 3 rfl ?_
 refine w_sub (Sl.Sub.trans (fold' (.cons rr3 (.cons rr3 .nil)) .refl (fun w0 h hh => ms_close (s := s) rfl hh)) (fold' (rz1 (.cons rr3 (.cons rr3 .nil))) .refl (fun w0 h hh => mm_closeD (s := s) hh))) ?_
 refine w_region ?_
 refine oV (v_fn (fs := []) (cs := [_, _, _]) rfl rfl) ?_
 refine o_call (tried_no (f := 38) (cs := [.pointer (some ⟨b2, 0, none⟩), .pointer (some ⟨b5, 0, none⟩), .pointer (some ⟨b3, 0, none⟩)]) (R := fun G => G = [Cel b2 50 [.pointer (some ⟨b, 0, none⟩)], Cel b5 3 [.int .i64 (s.out.length : Int)], Cel b3 3 [.int .i64 n], MX b bl sz mo]) ((c_step1 b2 b5 b3 b bl sz mo s.out.length n s (.error e) B hl hB hm (by omega) hok hlp).err rfl) V.b38) V.b37  rfl (.cons rr3 (.cons rr1 (.cons rr1 (rz1 .nil)))) rfl ?_
 rintro _ _ ⟨rfl, rfl⟩
 refine rO TTZiW 7 rfl ?_
 refine oV (v_T (v_neq rfl rfl) hE) ?_
 refine rO TTZiW 3 rfl ?_
 refine w_opnR rr3 (fun h hh => mx_open hh) ?_
 rintro ⟨v3, v4, v5, v6, v7, v8, v9, v10, v11, v12⟩ _
 dsimp only
 simp only [List.cons_append, List.nil_append]
 refine wN [pz 0 [] [2], pz 0 [] [2], pz 0 [] [2], pz 0 [] [6], pz 1 [0] [], pz 17 [4] [], pz 49 [5] [], pz 123 [1] [], pz 251 [7] [], pz 507 [8, 3] [], pz 1023 [2] [], pz 2047 [10] [], pz 4095 [11] []] [⟨fun y => Cel b 75 [.pointer (some ⟨bl, 0, none⟩), .int .i64 sz, .int .i64 mo, v3, v4, v5, v6, v7, v8, v9, v10, v11, v12], none, some 6, []⟩, ⟨fun y => Cel b2 50 [.pointer (some ⟨b, 0, none⟩)], none, none, [0, 1, 2]⟩, ⟨fun y => Cel b5 3 [.int .i64 (s.out.length : Int)], none, none, []⟩, ⟨fun y => Cel b3 3 [.int .i64 n], none, none, []⟩, ⟨fun y => Cel b 75 [.pointer (some ⟨bl, 0, none⟩), .int .i64 sz, .int .i64 mo, v3, .bool true, v5, v6, v7, v8, v9, v10, v11, v12], some 6, some 9, []⟩, ⟨fun y => Cel b 75 [.pointer (some ⟨bl, 0, none⟩), .int .i64 sz, .int .i64 mo, v3, .bool true, .int .i64 e, v6, v7, v8, v9, v10, v11, v12], some 9, some 12, []⟩, ⟨fun y => Cel b 75 [.pointer (some ⟨bl, 0, none⟩), .int .i64 sz, .int .i64 mo, .slice none 0 0, .bool true, .int .i64 e, v6, v7, v8, v9, v10, v11, v12], some 12, none, []⟩] F V.mixed ?_
 iterate 3 refine nR (fun y FF hA => v_load V.s50 rfl mm0 rfl) ?_
 refine nM ?_
 refine nN ?_
 refine nG V.f75_4 ?_
 refine nE (fun y FF hA => st_v (v_store V.s4 rfl rfl rfl (by exact pp0) (by exact Nat.le_of_ble_eq_true rfl) rfl) ⟨rfl, .refl _⟩) ?_
 refine nN ?_
 refine nG V.f75_5 ?_
 refine nE (fun y FF hA => st_v (v_store V.s24 rfl rfl rfl (by exact pp0) (by exact Nat.le_of_ble_eq_true rfl) rfl) ⟨rfl, .refl _⟩) ?_
 refine nN ?_
 refine nG V.f75_3 ?_
 refine nE (fun y FF hA => st_v (v_store V.s22 rfl rfl rfl (by exact pp0) (by exact Nat.le_of_ble_eq_true rfl) rfl) ⟨rfl, .refl _⟩) ?_
 refine net_nil ?_
 intro y hA
 clear hA
 refine thn_n ?_
 refine w_keep _ (.cons (d := 2) rfl (.nil _)) ?_
 refine w_sub (M := Cel b2 50 [.pointer (some ⟨b, 0, none⟩)] :: Cel b5 3 [.int .i64 (s.out.length : Int)] :: Cel b3 3 [.int .i64 n] :: Cel b 75 [.pointer (some ⟨bl, 0, none⟩), .int .i64 sz, .int .i64 mo, .slice none 0 0, .bool true, .int .i64 e, v6, v7, v8, v9, v10, v11, v12] :: F) (fun _ _ h => h) ?_
 refine rC TTZiW 2 rfl ?_
 refine oV (v_load V.s50 rfl mm0 rfl) ?_
 refine rO TTZiW 2 rfl ?_
 refine oV (v_load V.s4 rfl mm3 rfl) ?_
 refine rO TTZiW 4 rfl ?_
 exact ret_ok (res1 rfl) ⟨rfl, rfl⟩ (fold' (.cons rr3 .nil) dd3 (fun w0 h hh => md_close hh))
set_option maxHeartbeats 2000000 in
theorem c_stepDn (b bl : Nat) (sz mo : Int) (e : Int) (n : Int) : Ctr Tryz.prog 22 [.pointer (some ⟨b, 0, none⟩), .int .i64 n] [MD b bl sz mo e] (Ret fun v G => v = .bool true ∧ G = [MD b bl sz mo e]) := by
 refine spec_of [(0, _), (1, _)] Tryz.func22 rfl Tryz.ntmps22 rfl rfl ?_
 intro w0 F
 refine w_opnR rr0 (fun h hh => md_open hh) ?_
 rintro ⟨v3, v4, v5, v6, v7, v8, v9, v10, v11, v12⟩ _
 dsimp only
 simp only [List.cons_append, List.nil_append]
 refine rT TTZiW 2 rfl ?_
 refine o_box rfl (cs := [_]) rfl rfl ?_
 intro b2
 refine o_box rfl (cs := [_]) rfl rfl ?_
 intro b3
 refine rO TTZiW 6 rfl ?_
 refine oV (v_load V.s50 rfl mm1 rfl) ?_
 refine oV (v_to (v := .bool false) (v_eqnil Tryz.underlying50 rfl rfl) rfl) ?_
 refine oV (v_move rfl) ?_
 refine o_want rfl ?_
 refine oV (v_load V.s50 rfl mm1 rfl) ?_
 refine rO TTZiW 2 rfl ?_
 refine o_want rfl ?_
 refine oV (v_load V.s71 rfl mm2 rfl) ?_
 refine o_want rfl ?_
 refine oV (v_to (v := .bool false) (v_eqnil Tryz.underlying71 rfl rfl) rfl) ?_
 refine rO TTZiW 6 rfl ?_
 rcases (Classical.em (n < 1)) with h1 | h1
 ·refine rC TTZiW 3 rfl ?_
  refine oV (v_load V.s3 rfl mm0 rfl) ?_
  refine oV (v_T (v_lss rfl rfl) h1) ?_
  refine rO TTZiW 11 rfl ?_
  refine oV (v_load V.s50 rfl mm1 rfl) ?_
  refine rO TTZiW 2 rfl ?_
  refine oV (v_load V.s4 rfl mm2 rfl) ?_
  refine rO TTZiW 5 rfl ?_
  exact ret_ok (res1 rfl) ⟨rfl, rfl⟩ (fold' (.cons rr2 .nil) dd2 (fun w0 h hh => md_close hh))
 ·refine rC TTZiW 3 rfl ?_
  refine oV (v_load V.s3 rfl mm0 rfl) ?_
  refine oV (v_F (v_lss rfl rfl) h1) ?_
  refine oV (v_move rfl) ?_
  refine o_want rfl ?_
  refine oV (v_load V.s50 rfl mm1 rfl) ?_
  refine rO TTZiW 2 rfl ?_
  refine o_want rfl ?_
  refine oV (v_load V.s4 rfl mm2 rfl) ?_
  refine rO TTZiW 6 rfl ?_
  refine oV (v_load V.s50 rfl mm1 rfl) ?_
  refine rO TTZiW 2 rfl ?_
  refine oV (v_load V.s4 rfl mm2 rfl) ?_
  refine rO TTZiW 5 rfl ?_
  exact ret_ok (res1 rfl) ⟨rfl, rfl⟩ (fold' (.cons rr2 .nil) dd2 (fun w0 h hh => md_close hh))
theorem c_done (b bl : Nat) (sz mo : Int) (B : List Int) (s : InfP.St) : Ctr Tryz.prog 21 [.pointer (some ⟨b, 0, none⟩)] [MM b bl sz mo B s] (Ret fun v G => v = .bool s.ended ∧ G = [MM b bl sz mo B s]) := by
 refine spec_of [(0, _)] Tryz.func21 rfl Tryz.ntmps21 rfl rfl ?_
 intro w0 F
 refine w_opnR rr0 (fun h hh => mm_open hh) ?_
 rintro ⟨li, di⟩ _
 dsimp only
 simp only [List.cons_append, List.nil_append]
 refine w_opn (fun h hh => ms_open hh) ?_
 rintro ⟨po, co⟩ _
 dsimp only
 simp only [List.cons_append, List.nil_append]
 refine rT TTZiW 8 rfl ?_
 refine oV (v_to (v := .bool true) (v_nenil Tryz.underlying50 rfl rfl) rfl) ?_
 refine rO TTZiW 4 rfl ?_
 refine o_want rfl ?_
 refine oV (v_load V.s4 rfl mm0 rfl) ?_
 refine rO TTZiW 5 rfl ?_
 exact ret_ok (res1 rfl) ⟨rfl, rfl⟩ (Sl.Sub.trans ((fold' (rz2 .nil) .refl (fun w0 h hh => ms_close (s := s) rfl hh)).trans (fold' (rz3 .nil) .refl (fun w0 h hh => mm_closeD (s := s) hh))) (sub (rz1 .nil) dd0))
theorem c_doneD (b bl : Nat) (sz mo : Int) (e : Int) : Ctr Tryz.prog 21 [.pointer (some ⟨b, 0, none⟩)] [MD b bl sz mo e] (Ret fun v G => v = .bool true ∧ G = [MD b bl sz mo e]) := by
 refine spec_of [(0, _)] Tryz.func21 rfl Tryz.ntmps21 rfl rfl ?_
 intro w0 F
 refine w_opnR rr0 (fun h hh => md_open hh) ?_
 rintro ⟨v3, v4, v5, v6, v7, v8, v9, v10, v11, v12⟩ _
 dsimp only
 simp only [List.cons_append, List.nil_append]
 refine rT TTZiW 8 rfl ?_
 refine oV (v_to (v := .bool true) (v_nenil Tryz.underlying50 rfl rfl) rfl) ?_
 refine rO TTZiW 4 rfl ?_
 refine o_want rfl ?_
 refine oV (v_load V.s4 rfl mm0 rfl) ?_
 refine rO TTZiW 5 rfl ?_
 exact ret_ok (res1 rfl) ⟨rfl, rfl⟩ (fold' (rz1 .nil) dd0 (fun w0 h hh => md_close hh))
theorem c_err (b bl : Nat) (sz mo : Int) (B : List Int) (s : InfP.St) : Ctr Tryz.prog 25 [.pointer (some ⟨b, 0, none⟩)] [MM b bl sz mo B s] (Ret fun v G => v = .int .i64 0 ∧ G = [MM b bl sz mo B s]) := by
 refine spec_of [(0, _)] Tryz.func25 rfl Tryz.ntmps25 rfl rfl ?_
 intro w0 F
 refine w_opnR rr0 (fun h hh => mm_open hh) ?_
 rintro ⟨li, di⟩ _
 dsimp only
 simp only [List.cons_append, List.nil_append]
 refine w_opn (fun h hh => ms_open hh) ?_
 rintro ⟨po, co⟩ _
 dsimp only
 simp only [List.cons_append, List.nil_append]
 refine rT TTZiW 9 rfl ?_
 refine oV (v_to (v := .bool false) (v_eqnil Tryz.underlying50 rfl rfl) rfl) ?_
 refine rO TTZiW 10 rfl ?_
 refine oV (v_load V.s24 rfl mm0 rfl) ?_
 refine rO TTZiW 4 rfl ?_
 exact ret_ok (res1 rfl) ⟨rfl, rfl⟩ (Sl.Sub.trans ((fold' (rz2 .nil) .refl (fun w0 h hh => ms_close (s := s) rfl hh)).trans (fold' (rz3 .nil) .refl (fun w0 h hh => mm_closeD (s := s) hh))) (sub (rz1 .nil) dd0))
theorem c_errD (b bl : Nat) (sz mo : Int) (e : Int) : Ctr Tryz.prog 25 [.pointer (some ⟨b, 0, none⟩)] [MD b bl sz mo e] (Ret fun v G => v = .int .i64 e ∧ G = [MD b bl sz mo e]) := by
 refine spec_of [(0, _)] Tryz.func25 rfl Tryz.ntmps25 rfl rfl ?_
 intro w0 F
 refine w_opnR rr0 (fun h hh => md_open hh) ?_
 rintro ⟨v3, v4, v5, v6, v7, v8, v9, v10, v11, v12⟩ _
 dsimp only
 simp only [List.cons_append, List.nil_append]
 refine rT TTZiW 9 rfl ?_
 refine oV (v_to (v := .bool false) (v_eqnil Tryz.underlying50 rfl rfl) rfl) ?_
 refine rO TTZiW 10 rfl ?_
 refine oV (v_load V.s24 rfl mm0 rfl) ?_
 refine rO TTZiW 4 rfl ?_
 exact ret_ok (res1 rfl) ⟨rfl, rfl⟩ (fold' (rz1 .nil) dd0 (fun w0 h hh => md_close hh))
theorem c_outNo (b bl : Nat) (sz mo : Int) (B : List Int) (s : InfP.St) (he : s.ended = false) : Ctr Tryz.prog 23 [.pointer (some ⟨b, 0, none⟩)] [MM b bl sz mo B s] (Ret fun v G => v = .slice none 0 0 ∧ G = [MM b bl sz mo B s]) := by
 refine spec_of [(0, _)] Tryz.func23 rfl Tryz.ntmps23 rfl rfl ?_
 intro w0 F
 refine rT TTZiW 9 rfl ?_
 refine o_call (c_done b bl sz mo B s) V.b21  rfl (rz1 .nil) rfl ?_
 rintro _ _ ⟨rfl, rfl⟩
 rw [he]
 refine rO TTZiW 11 rfl ?_
 exact ret_ok (res1 rfl) ⟨rfl, rfl⟩ (sub (rz1 .nil) dd0)
set_option maxHeartbeats 1000000 in
theorem c_outYes (b bl : Nat) (sz mo : Int) (B : List Int) (s : InfP.St) (hok : InfP.Ok B mo s) (hm : mo < 500000000) (he : s.ended = true) : Ctr Tryz.prog 23 [.pointer (some ⟨b, 0, none⟩)] [MM b bl sz mo B s] (Ret fun v G => ∃ q c, v = .slice q s.out.length c ∧ G = [Row U5 q s.out.length c s.out, MM b bl sz mo B s]) := by
 refine spec_of [(0, _)] Tryz.func23 rfl Tryz.ntmps23 rfl rfl ?_
 intro w0 F
 refine rT TTZiW 9 rfl ?_
 refine o_call (c_done b bl sz mo B s) V.b21  rfl (rz1 .nil) rfl ?_
 rintro _ _ ⟨rfl, rfl⟩
 rw [he]
 refine rO TTZiW 7 rfl ?_
 have hro := hok.room
 refine w_opnR rr0 (fun h hh => mm_open hh) ?_
 rintro ⟨li, di⟩ _
 dsimp only
 simp only [List.cons_append, List.nil_append]
 refine w_opn (fun h hh => ms_open hh) ?_
 rintro ⟨po, co⟩ _
 dsimp only
 simp only [List.cons_append, List.nil_append]
 refine rC TTZiW 4 rfl ?_
 refine oV (v_load V.s22 rfl mm0 rfl) ?_
 refine o_call (c_clone po co s.out (Row U5 po s.out.length co s.out) (fun _ _ hh => hh.rd) (by omega)) V.b40  rfl (.cons rr1 .nil) rfl ?_
 rintro _ _ ⟨q10, c10, rfl, rfl⟩
 refine rO TTZiW 4 rfl ?_
 exact ret_ok (res1 rfl) ⟨q10, c10, rfl, rfl⟩ (Sl.Sub.trans ((fold' (.cons rr2 (.cons rr1 .nil)) .refl (fun w0 h hh => ms_close (s := s) rfl hh)).trans (fold' (rz1 (.cons rr1 (.cons rr1 .nil))) .refl (fun w0 h hh => mm_closeD (s := s) hh))) (sub (.cons rr1 (rz1 .nil)) dd0))
set_option maxHeartbeats 1000000 in
theorem c_outDn (b bl : Nat) (sz mo : Int) (e : Int) : Ctr Tryz.prog 23 [.pointer (some ⟨b, 0, none⟩)] [MD b bl sz mo e] (Ret fun v G => ∃ q c, v = .slice q 0 c ∧ G = [Row U5 q 0 c [], MD b bl sz mo e]) := by
 refine spec_of [(0, _)] Tryz.func23 rfl Tryz.ntmps23 rfl rfl ?_
 intro w0 F
 refine rT TTZiW 9 rfl ?_
 refine o_call (c_doneD b bl sz mo e) V.b21  rfl (rz1 .nil) rfl ?_
 rintro _ _ ⟨rfl, rfl⟩
 refine rO TTZiW 7 rfl ?_
 refine w_opnR rr0 (fun h hh => md_open hh) ?_
 rintro ⟨v3, v4, v5, v6, v7, v8, v9, v10, v11, v12⟩ _
 dsimp only
 simp only [List.cons_append, List.nil_append]
 refine w_add0 (Row U5 none 0 0 []) (Row.nil _ _ _) ?_
 refine rC TTZiW 4 rfl ?_
 refine oV (v_load V.s22 rfl mm1 rfl) ?_
 refine o_call (c_clone none 0 [] (Row U5 none 0 0 []) (fun _ _ hh => hh.rd) (by decide)) V.b40  rfl (rz1 .nil) rfl ?_
 rintro _ _ ⟨q10, c10, rfl, rfl⟩
 refine rO TTZiW 4 rfl ?_
 exact ret_ok (res1 rfl) ⟨q10, c10, rfl, rfl⟩ (Sl.Sub.trans (fold' (.cons rr2 .nil) .refl (fun w0 h hh => md_close hh)) (sub (.cons rr1 (rz1 .nil)) dd1))
theorem c_usedNo (b bl : Nat) (sz mo : Int) (B : List Int) (s : InfP.St) (he : s.ended = false) : Ctr Tryz.prog 24 [.pointer (some ⟨b, 0, none⟩)] [MM b bl sz mo B s] (Ret fun v G => v = .int .i64 0 ∧ G = [MM b bl sz mo B s]) := by
 refine spec_of [(0, _)] Tryz.func24 rfl Tryz.ntmps24 rfl rfl ?_
 intro w0 F
 refine rT TTZiW 9 rfl ?_
 refine o_call (c_done b bl sz mo B s) V.b21  rfl (rz1 .nil) rfl ?_
 rintro _ _ ⟨rfl, rfl⟩
 rw [he]
 refine rO TTZiW 18 rfl ?_
 exact ret_ok (res1 rfl) ⟨rfl, rfl⟩ (sub (rz1 .nil) dd0)
theorem c_usedD (b bl : Nat) (sz mo : Int) (e : Int) (hE : e ≠ 0) : Ctr Tryz.prog 24 [.pointer (some ⟨b, 0, none⟩)] [MD b bl sz mo e] (Ret fun v G => v = .int .i64 0 ∧ G = [MD b bl sz mo e]) := by
 refine spec_of [(0, _)] Tryz.func24 rfl Tryz.ntmps24 rfl rfl ?_
 intro w0 F
 refine rT TTZiW 9 rfl ?_
 refine o_call (c_doneD b bl sz mo e) V.b21  rfl (rz1 .nil) rfl ?_
 rintro _ _ ⟨rfl, rfl⟩
 refine o_opnR rr0 (fun h hh => md_open hh) ?_
 rintro ⟨v3, v4, v5, v6, v7, v8, v9, v10, v11, v12⟩ _
 dsimp only
 simp only [List.cons_append, List.nil_append]
 refine rO TTZiW 5 rfl ?_
 refine o_want rfl ?_
 refine oV (v_load V.s24 rfl mm0 rfl) ?_
 refine o_want rfl ?_
 refine oV (v_T (v_neq rfl rfl) hE) ?_
 refine rO TTZiW 11 rfl ?_
 exact ret_ok (res1 rfl) ⟨rfl, rfl⟩ (fold' (rz1 .nil) dd0 (fun w0 h hh => md_close hh))
set_option maxHeartbeats 1000000 in
theorem c_usedYes (b bl : Nat) (mo : Int) (B : List Int) (s : InfP.St) (hl : B.length < 500000000) (hok : InfP.Ok B mo s) (hm : mo < 1000000000) (he : s.ended = true) : Ctr Tryz.prog 24 [.pointer (some ⟨b, 0, none⟩)] [MM b bl (B.length : Int) mo B s] (Ret fun v G => v = .int .i64 (((s.at_ + 7) / 8 : Nat) : Int) ∧ G = [MM b bl (B.length : Int) mo B s]) := by
 refine spec_of [(0, _)] Tryz.func24 rfl Tryz.ntmps24 rfl rfl ?_
 intro w0 F
 refine rT TTZiW 9 rfl ?_
 refine o_call (c_done b bl (B.length : Int) mo B s) V.b21  rfl (rz1 .nil) rfl ?_
 rintro _ _ ⟨rfl, rfl⟩
 rw [he]
 refine o_opnR rr0 (fun h hh => mm_open hh) ?_
 rintro ⟨li, di⟩ _
 dsimp only
 simp only [List.cons_append, List.nil_append]
 refine o_opn (fun h hh => ms_open hh) ?_
 rintro ⟨po, co⟩ _
 dsimp only
 simp only [List.cons_append, List.nil_append]
 have hat := hok.at_
 refine rO TTZiW 5 rfl ?_
 refine o_want rfl ?_
 refine oV (v_load V.s24 rfl mm0 rfl) ?_
 refine o_want rfl ?_
 refine oV (v_F (v_neq rfl rfl) (by decide)) ?_
 refine rO TTZiW 7 rfl ?_
 refine wN [pz 0 [] [0], pz 1 [0] [], pz 3 [1] [], pz 7 [2] [], pz 0 [] [0], pz 16 [4] [], pz 48 [5] [], pz 112 [6] [], pz 240 [7] [], pz 496 [8] [], pz 1023 [3, 9] [], pz 2047 [10] []] [⟨fun y => Cel b 75 [.pointer (some ⟨bl, 0, none⟩), .int .i64 (B.length : Int), .int .i64 mo, .slice po s.out.length co, .bool s.ended, .int .i64 0, .int .i64 s.kind, .int .i64 (s.left : Int), .bool s.last, li, di, .int .i64 (s.copies : Int), .int .i64 (s.far : Int)], none, none, [3, 7]⟩, ⟨fun y => Row U5 po s.out.length co s.out, none, none, []⟩, ⟨fun y => LW bl B s.at_ [] 0, none, some 8, []⟩, ⟨fun y => CD li di s, none, none, []⟩, ⟨fun y => LW bl B s.at_ [] 0, some 8, none, []⟩] F V.mixed ?_
 refine nM ?_
 refine nN ?_
 refine nG V.f75_1 ?_
 refine nR (fun y FF hA => v_load V.s3 rfl mm0 rfl) ?_
 refine nM ?_
 refine nN ?_
 refine nG V.f75_0 ?_
 refine nR (fun y FF hA => v_load V.s71 rfl mm0 rfl) ?_
 refine nE (fun y FF hA => st_callN (Post := [LW bl B s.at_ [] 0]) (c_Left bl B s.at_ [] 0 hl hok.at_) V.b41 rfl (rz1 .nil) (fun v G h => by rcases h with ⟨rfl, rfl⟩; exact ⟨rfl, .refl _⟩)) ?_
 refine nV (fun y hA L => v_quo rfl rfl (by omega) (quoI (by omega) (by omega) (by omega))) ?_
 refine nV (fun y hA L => v_sub rfl rfl wI) ?_
 refine nA ?_
 refine net_nil ?_
 intro y hA
 clear hA
 refine thn_n ?_
 refine w_keep _ (.cons (d := 2) rfl (.nil _)) ?_
 refine w_sub (M := Cel b 75 [.pointer (some ⟨bl, 0, none⟩), .int .i64 (B.length : Int), .int .i64 mo, .slice po s.out.length co, .bool s.ended, .int .i64 0, .int .i64 s.kind, .int .i64 (s.left : Int), .bool s.last, li, di, .int .i64 (s.copies : Int), .int .i64 (s.far : Int)] :: Row U5 po s.out.length co s.out :: CD li di s :: LW bl B s.at_ [] 0 :: F) (fun _ _ h => h) ?_
 refine rC TTZiW 1 rfl ?_
 rw [show (B.length : Int) - (8 * (B.length : Int) - (s.at_ : Int)) / 8 = (((s.at_ + 7) / 8 : Nat) : Int) from by omega]
 exact ret_ok (res1 rfl) ⟨rfl, rfl⟩ (Sl.Sub.trans ((fold' (rz2 .nil) .refl (fun w0 h hh => ms_close (s := s) rfl hh)).trans (fold' (rz1 (.cons rr1 (.cons rr0 .nil))) .refl (fun w0 h hh => mm_closeD (s := s) hh))) (sub (rz1 .nil) dd0))
end Go.Proofs.YtmbljkghkcgejaaGreat
namespace Go.Proofs.YtmbljkghkcgejaaGreat
open Go.Sl 
theorem TTZiX : okT Tryz.prog ⟨[22], [(75, 4, 4), (75, 5, 5)]⟩ = true := by kernel_rfl
attribute [local irreducible] HuffP.newE HuffP.tk HuffP.ord HuffP.cntL HuffP.words HuffP.mostL InfP.frs InfP.toldC InfP.toldN InfP.toldA InfP.hL InfP.hD InfP.hC InfP.lnGo InfP.told InfP.fixL InfP.codeE InfP.rep InfP.lenE InfP.awayE InfP.sym InfP.alg BitP.numL InfP.coded InfP.begin_ InfP.one InfP.put_
set_option maxHeartbeats 1000000 in
theorem c_new (p : Option Addr) (cap : Nat) (B : List Int) (R : HProp) (hR : ∀ w0 h, R w0 h → RdR U5 p B.length B w0 h) (hl : B.length < 500000000) (mo : Int) (hm : 0 ≤ mo) : Ctr Tryz.prog 20 [.slice p B.length cap, .int .i64 mo] [R] (Ret fun v G => ∃ b bl, v = .pointer (some ⟨b, 0, none⟩) ∧ G = [MM b bl (B.length : Int) mo B InfP.start, R]) := by
 refine spec_of [(0, _), (1, _)] Tryz.func20 rfl Tryz.ntmps20 rfl rfl ?_
 intro w0 F
 refine rT TTZiX 8 rfl ?_
 refine o_call (c_newLow p cap B R hR hl) V.b36  rfl (rz1 .nil) rfl ?_
 rintro _ _ ⟨bl7, rfl, rfl⟩
 refine rO TTZiX 3 rfl ?_
 refine oV (v_build V.pl75 V.z75 rfl (cs := [_, _, _, _, _, _, _, _, _, _, _, _, _]) rfl) ?_
 refine o_box rfl (cs := [_, _, _, _, _, _, _, _, _, _, _, _, _]) rfl rfl ?_
 intro b12
 refine rO TTZiX 7 rfl ?_
 refine oV (v_F (v_lss rfl rfl) (by omega)) ?_
 refine rO TTZiX 6 rfl ?_
 refine w_add0 (Row U5 none 0 0 []) (Row.nil _ _ _) ?_
 refine rC TTZiX 6 rfl ?_
 exact ret_ok (res1 rfl) ⟨b12, bl7, rfl, rfl⟩ (Sl.Sub.trans (Sl.Sub.trans (fold' (.cons rr1 (rz1 .nil)) .refl (fun w0 h hh => ms_close (s := InfP.start) (li := .pointer none) (di := .pointer none) rfl hh)) (fold' (rz2 .nil) .refl (fun w0 h hh => mm_close0 (s := InfP.start) (by decide) hh))) (sub (rz2 .nil) dd0))
set_option maxHeartbeats 1000000 in
theorem c_newNo (p : Option Addr) (cap : Nat) (B : List Int) (R : HProp) (hR : ∀ w0 h, R w0 h → RdR U5 p B.length B w0 h) (hl : B.length < 500000000) (mo : Int) (hm : mo < 0) : Ctr Tryz.prog 20 [.slice p B.length cap, .int .i64 mo] [R] (Ret fun v G => ∃ b bl, v = .pointer (some ⟨b, 0, none⟩) ∧ G = [MD b bl (B.length : Int) mo 1, R]) := by
 refine spec_of [(0, _), (1, _)] Tryz.func20 rfl Tryz.ntmps20 rfl rfl ?_
 intro w0 F
 refine rT TTZiX 8 rfl ?_
 refine o_call (c_newLow p cap B R hR hl) V.b36  rfl (rz1 .nil) rfl ?_
 rintro _ _ ⟨bl7, rfl, rfl⟩
 refine rO TTZiX 3 rfl ?_
 refine oV (v_build V.pl75 V.z75 rfl (cs := [_, _, _, _, _, _, _, _, _, _, _, _, _]) rfl) ?_
 refine o_box rfl (cs := [_, _, _, _, _, _, _, _, _, _, _, _, _]) rfl rfl ?_
 intro b12
 refine rO TTZiX 7 rfl ?_
 refine oV (v_T (v_lss rfl rfl) (by omega)) ?_
 refine rO TTZiX 8 rfl ?_
 refine o_eff (v_store V.s4 rfl rfl rfl (by exact pp0) (by exact Nat.le_of_ble_eq_true rfl) rfl) ?_
 refine rO TTZiX 2 rfl ?_
 refine o_eff (v_store V.s24 rfl rfl rfl (by exact pp0) (by exact Nat.le_of_ble_eq_true rfl) rfl) ?_
 refine rO TTZiX 9 rfl ?_
 exact ret_ok (res1 rfl) ⟨b12, bl7, rfl, rfl⟩ (Sl.Sub.trans (fold' (rz1 .nil) .refl (fun w0 h hh => md_close hh)) (sub (rz1 (.cons rr1 .nil)) dd1))
theorem Ctr.add0' {P : Program} {f : FuncId} {args : List Value} {Pre Gs : List HProp} {v0 : Value} {A : HProp} (h : Ctr P f args Pre (Ret fun v G => v = v0 ∧ G = Gs)) (hA : ∀ w0, A w0 (fun _ => none)) : Ctr P f args Pre (Ret fun v G => v = v0 ∧ G = A :: Gs) := fun w0 F w hi => (h w0 F w hi).mono fun e w' ⟨G, h1, v, h2, h3, h4⟩ => by
 subst h2; subst h3; subst h4
 exact ⟨A :: G, h1.add0 (hA w0), _, rfl, rfl, rfl⟩
section
variable (b bl : Nat) (mo : Int) (B : List Int) (r : InfP.Jt)
theorem c_doneJ (sz : Int) : Ctr Tryz.prog 21 [.pointer (some ⟨b, 0, none⟩)] [MJ b bl sz mo B r] (Ret fun v G => v = .bool (InfP.endJ r) ∧ G = [MJ b bl sz mo B r]) := by
 cases r with
 | ok s => exact c_done b bl sz mo B s
 | error e => exact c_doneD b bl sz mo e
theorem c_errJ (sz : Int) : Ctr Tryz.prog 25 [.pointer (some ⟨b, 0, none⟩)] [MJ b bl sz mo B r] (Ret fun v G => v = .int .i64 (InfP.errJ r) ∧ G = [MJ b bl sz mo B r]) := by
 cases r with
 | ok s => exact c_err b bl sz mo B s
 | error e => exact c_errD b bl sz mo e
theorem c_usedJ (hl : B.length < 500000000) (hm : mo < 500000000) (hok : InfP.OkJ B mo r) : Ctr Tryz.prog 24 [.pointer (some ⟨b, 0, none⟩)] [MJ b bl (B.length : Int) mo B r] (Ret fun v G => v = .int .i64 (InfP.usedJ r) ∧ G = [MJ b bl (B.length : Int) mo B r]) := by
 cases r with
 | ok s =>
  cases he : s.ended with
  | true => rw [show InfP.usedJ (.ok s) = (((s.at_ + 7) / 8 : Nat) : Int) from if_pos he]; exact c_usedYes b bl mo B s hl hok (by omega) he
  | false => rw [show InfP.usedJ (.ok s) = 0 from if_neg (by rw [he]; decide)]; exact c_usedNo b bl (B.length : Int) mo B s he
 | error e => exact c_usedD b bl (B.length : Int) mo e hok
theorem c_outJ (sz : Int) (hm : mo < 500000000) (hok : InfP.OkJ B mo r) : Ctr Tryz.prog 23 [.pointer (some ⟨b, 0, none⟩)] [MJ b bl sz mo B r] (Ret fun v G => ∃ q c, v = .slice q (InfP.outJ r).length c ∧ G = [Row U5 q (InfP.outJ r).length c (InfP.outJ r), MJ b bl sz mo B r]) := by
 cases r with
 | ok s =>
  cases he : s.ended with
  | true => rw [show InfP.outJ (.ok s) = s.out from if_pos he]; exact c_outYes b bl sz mo B s hok hm he
  | false => rw [show InfP.outJ (.ok s) = [] from if_neg (by rw [he]; decide)]; exact (Ctr.add0' (c_outNo b bl sz mo B s he) (A := Row U5 none 0 0 []) (fun w0 => Row.nil U5 w0 _)).mono fun e G ⟨v, h1, h2, h3⟩ => ⟨v, h1, none, 0, h2, h3⟩
 | error e => exact c_outDn b bl sz mo e
theorem c_stepJ (sz n : Int) (r' : InfP.Jt) (hl : B.length < 500000000) (hB : BitP.Byt B) (hm : mo < 500000000) (hok : InfP.OkJ B mo r) (hst : InfP.StepJ B mo n r r') : Ctr Tryz.prog 22 [.pointer (some ⟨b, 0, none⟩), .int .i64 n] [MJ b bl sz mo B r] (Ret fun v G => v = .bool (InfP.endJ r') ∧ G = [MJ b bl sz mo B r']) := by
 rcases hst with ⟨hx, rfl⟩ | ⟨hn1, s, rfl, he, hl2⟩
 ·cases r' with
  | ok s => exact c_stepNo b bl sz mo B s n hok (by omega) hx
  | error e => exact c_stepDn b bl sz mo e n
 ·cases r' with
  | ok s2 => exact c_stepOk b bl sz mo B s n hl hB hn1 hok (by omega) he s2 hl2
  | error e => exact c_stepEr b bl sz mo B s n hl hB hn1 hok (by omega) he e (InfP.lp_nz hl2 rfl) hl2
end
attribute [local irreducible] InfP.outJ InfP.usedJ InfP.errJ InfP.endJ InfP.Ou
set_option maxHeartbeats 1000000 in
theorem c_allOk (p : Option Addr) (cap : Nat) (B : List Int) (R : HProp) (hR : ∀ w0 h, R w0 h → RdR U5 p B.length B w0 h) (hl : B.length < 500000000) (hB : BitP.Byt B) (mo : Int) (hm : 0 ≤ mo ∧ mo < 500000000) (q : List Int × Int × Int) (hq : InfP.Res B mo q) : Ctr Tryz.prog 14 [.slice p B.length cap, .int .i64 mo] [R] (Ret fun v G => ∃ qq cq, v = .tuple #[.slice qq q.1.length cq, .int .i64 q.2.1, .int .i64 q.2.2] ∧ G = [Row U5 qq q.1.length cq q.1, R]) := by
 refine spec_of [(0, _), (1, _)] Tryz.func14 rfl Tryz.ntmps14 rfl rfl ?_
 intro w0 F
 refine rT TTZiX 11 rfl ?_
 refine o_call (c_new p cap B R hR hl mo hm.1) V.b20  rfl (rz1 .nil) rfl ?_
 rintro _ _ ⟨b10, bl7, rfl, rfl⟩
 refine rO TTZiX 5 rfl ?_
 refine w_sub (M := MJ b10 bl7 (B.length : Int) mo B (.ok InfP.start) :: R :: F) (fun _ _ h => h) ?_
 refine w_loop1 (fun (r : InfP.Jt) => [(7, .pointer (some ⟨b10, 0, none⟩))]) (fun (r : InfP.Jt) => MJ b10 bl7 (B.length : Int) mo B r :: R :: F) (fun (r : InfP.Jt) => InfP.OkJ B mo r ∧ InfP.AtJ B mo InfP.start r) (fun (r : InfP.Jt) => InfP.muJ B r) (i1 (.ok InfP.start) ?_ (lc1 ln) (sub (rz2 .nil) dd0)) ?_
 ·exact ⟨InfP.start_ok hm.1, InfP.Goes.refl _ _ _⟩
 intro r
 rintro ⟨hok, hat⟩
 refine rL TTZiX 4 rfl ?_
 refine o_call (c_doneJ b10 bl7 mo B r (B.length : Int)) V.b21  rfl (rz1 .nil) rfl ?_
 rintro _ _ ⟨rfl, rfl⟩
 refine oV (v_not rfl) ?_
 refine rO TTZiX 2 rfl ?_
 refine w_cond rfl (fun h13 => ?_) (fun h13 => ?_)
 ·refine rC TTZiX 3 rfl ?_
  have he : InfP.endJ r = false := by simpa using h13
  obtain ⟨r2, hst⟩ := InfP.stepJ_ex hB hok 1048576
  have hgj := InfP.stepJ_good hB hok hat hst
  refine rC TTZiX 2 rfl ?_
  refine o_call (c_stepJ b10 bl7 mo B r (B.length : Int) 1048576 r2 hl hB hm.2 hok hst) V.b22  rfl (rz1 .nil) rfl ?_
  rintro _ _ ⟨rfl, rfl⟩
  refine rO TTZiX 2 rfl ?_
  refine j1 (r2) ?_ (lc1 ln) (sub (rz2 .nil) dd0)
  exact ⟨⟨hgj.ok, hgj.at_⟩, hgj.less he (by decide)⟩
 ·refine rC TTZiX 6 rfl ?_
  have he : InfP.endJ r = true := by simpa using h13
  obtain rfl := hq.det (InfP.atJ_end hm.1 hat he)
  refine rC TTZiX 2 rfl ?_
  refine o_call (c_outJ b10 bl7 mo B r (B.length : Int) hm.2 hok) V.b23  rfl (rz1 .nil) rfl ?_
  rintro _ _ ⟨q17, c17, rfl, rfl⟩
  refine oV (v_move rfl) ?_
  refine o_call (c_usedJ b10 bl7 mo B r hl hm.2 hok) V.b24  rfl (.cons rr1 .nil) rfl ?_
  rintro _ _ ⟨rfl, rfl⟩
  refine oV (v_move rfl) ?_
  refine o_call (c_errJ b10 bl7 mo B r (B.length : Int)) V.b25  rfl (rz1 .nil) rfl ?_
  rintro _ _ ⟨rfl, rfl⟩
  refine rO TTZiX 6 rfl ?_
  exact ret_ok (res3 rfl rfl rfl) ⟨q17, c17, rfl, rfl⟩ (sub (.cons rr1 (.cons rr1 .nil)) dd1)
set_option maxHeartbeats 1000000 in
theorem c_allNo (p : Option Addr) (cap : Nat) (B : List Int) (R : HProp) (hR : ∀ w0 h, R w0 h → RdR U5 p B.length B w0 h) (hl : B.length < 500000000) (mo : Int) (hm : mo < 0) (q : List Int × Int × Int) (hq : InfP.Res B mo q) : Ctr Tryz.prog 14 [.slice p B.length cap, .int .i64 mo] [R] (Ret fun v G => ∃ qq cq, v = .tuple #[.slice qq q.1.length cq, .int .i64 q.2.1, .int .i64 q.2.2] ∧ G = [Row U5 qq q.1.length cq q.1, R]) := by
 obtain rfl := hq.det (.inl ⟨hm, rfl⟩)
 refine spec_of [(0, _), (1, _)] Tryz.func14 rfl Tryz.ntmps14 rfl rfl ?_
 intro w0 F
 refine rT TTZiX 11 rfl ?_
 refine o_call (c_newNo p cap B R hR hl mo hm) V.b20  rfl (rz1 .nil) rfl ?_
 rintro _ _ ⟨b10, bl7, rfl, rfl⟩
 refine rO TTZiX 5 rfl ?_
 refine w_loop1 (fun (z : Nat) => [(7, .pointer (some ⟨b10, 0, none⟩))]) (fun (z : Nat) => MD b10 bl7 (B.length : Int) mo 1 :: R :: F) (fun (z : Nat) => True) (fun (z : Nat) => z) (i1 (0) ?_ (lc1 ln) (sub (rz2 .nil) dd0)) ?_
 ·exact trivial
 intro z
 rintro -
 refine rL TTZiX 4 rfl ?_
 refine o_call (c_doneD b10 bl7 (B.length : Int) mo 1) V.b21  rfl (rz1 .nil) rfl ?_
 rintro _ _ ⟨rfl, rfl⟩
 refine rO TTZiX 12 rfl ?_
 refine o_call (c_outDn b10 bl7 (B.length : Int) mo 1) V.b23  rfl (rz1 .nil) rfl ?_
 rintro _ _ ⟨q17, c17, rfl, rfl⟩
 refine oV (v_move rfl) ?_
 refine o_call (c_usedD b10 bl7 (B.length : Int) mo 1 (by decide)) V.b24  rfl (.cons rr1 .nil) rfl ?_
 rintro _ _ ⟨rfl, rfl⟩
 refine oV (v_move rfl) ?_
 refine o_call (c_errD b10 bl7 (B.length : Int) mo 1) V.b25  rfl (rz1 .nil) rfl ?_
 rintro _ _ ⟨rfl, rfl⟩
 refine rO TTZiX 6 rfl ?_
 exact ret_ok (res3 rfl rfl rfl) ⟨q17, c17, rfl, rfl⟩ (sub (.cons rr1 (.cons rr1 .nil)) dd1)
theorem c_all (p : Option Addr) (cap : Nat) (B : List Int) (R : HProp) (hR : ∀ w0 h, R w0 h → RdR U5 p B.length B w0 h) (hl : B.length < 500000000) (hB : BitP.Byt B) (mo : Int) (hm : mo < 500000000) (q : List Int × Int × Int) (hq : InfP.Res B mo q) : Ctr Tryz.prog 14 [.slice p B.length cap, .int .i64 mo] [R] (Ret fun v G => ∃ qq cq, v = .tuple #[.slice qq q.1.length cq, .int .i64 q.2.1, .int .i64 q.2.2] ∧ G = [Row U5 qq q.1.length cq q.1, R]) := by
 by_cases h : mo < 0
 ·exact c_allNo p cap B R hR hl mo h q hq
 ·exact c_allOk p cap B R hR hl hB mo ⟨by omega, hm⟩ q hq
end Go.Proofs.YtmbljkghkcgejaaGreat

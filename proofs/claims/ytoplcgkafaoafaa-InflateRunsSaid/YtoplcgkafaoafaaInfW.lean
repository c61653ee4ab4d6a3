/-
 Steps of the proof: walks of functions that the statement reaches; printed by a program of ours.
-/
import Derived.Test.YtoplcgkafaoafaaM43
namespace Go.Proofs.Ytoplcgkafaoafaa
open Go.Sl 
set_option linter.unusedVariables false
set_option linter.unusedSimpArgs false

attribute [local irreducible] HuffP.newE HuffP.tk HuffP.ord HuffP.cntL HuffP.words HuffP.mostL InfP.frs InfP.toldC InfP.toldN InfP.toldA InfP.hL InfP.hD InfP.hC InfP.lnGo InfP.told InfP.fixL InfP.codeE InfP.rep InfP.lenE InfP.awayE InfP.sym InfP.alg BitP.numL InfP.coded InfP.begin_ InfP.one InfP.put_

set_option maxHeartbeats 2000000 in
set_option maxRecDepth 100000 in
theorem c_stepNo (b bl : Nat) (sz mo : Int) (B : List Int) (s : InfP.St) (n : Int) (hok : InfP.Ok B mo s) (hm : mo < 1000000000) (hx : n < 1 ∨ s.ended = true) : Ctr Try.prog 15 [.pointer (some ⟨b, 0, none⟩), .int .i64 n] [MM b bl sz mo B s] (Ret fun v G => v = .bool s.ended ∧ G = [MM b bl sz mo B s]) := by
 refine spec_of [(0, _), (1, _)] Try.func15 rfl Try.ntmps15 rfl rfl ?_
 intro w0 F
 have hro := hok.room
 refine w_opnR (by repeat first | exact .head | apply Rem.tail) (fun h hh => mm_open hh) ?_
 rintro ⟨li, di⟩ _
 dsimp only
 simp only [List.cons_append, List.nil_append]
 refine w_opn (fun h hh => ms_open hh) ?_
 rintro ⟨po, co⟩ _
 dsimp only
 simp only [List.cons_append, List.nil_append]
 refine w_seq ?_
 refine w_region ?_
 refine o_box rfl (cs := [_]) rfl rfl ?_
 intro b2
 refine o_box rfl (cs := [_]) rfl rfl ?_
 intro b3
 refine o_val (v_assign rfl) rfl ?_
 refine o_nil ?_
 refine thn_n ?_
 refine w_seq ?_
 refine w_seq ?_
 refine w_region ?_
 refine o_val (v_load V.s31 rfl (by repeat first | exact .head _ | apply List.Mem.tail) rfl) rfl ?_
 refine o_val (v_to (v := .bool false) (v_eqnil Try.underlying31 rfl rfl) rfl) rfl ?_
 refine o_val (v_move rfl) rfl ?_
 refine o_want rfl ?_
 refine o_val (v_load V.s31 rfl (by repeat first | exact .head _ | apply List.Mem.tail) rfl) rfl ?_
 refine o_want rfl ?_
 refine o_val (v_nil rfl) rfl ?_
 refine o_want rfl ?_
 refine o_val (v_fieldAddr V.f67_0 rfl) rfl ?_
 refine o_want rfl ?_
 refine o_val (v_load V.s63 rfl (by repeat first | exact .head _ | apply List.Mem.tail) rfl) rfl ?_
 refine o_want rfl ?_
 refine o_val (v_to (v := .bool false) (v_eqnil Try.underlying63 rfl rfl) rfl) rfl ?_
 refine o_val (v_pickF rfl rfl) rfl ?_
 refine o_nil ?_
 refine thn_n ?_
 refine w_condF rfl ?_
 refine w_skip ?_
 refine thn_n ?_
 rcases (Classical.em (n < 1)) with h1 | h1
 ·
  refine w_seq ?_
  refine w_seq ?_
  refine w_region ?_
  refine o_val (v_load V.s3 rfl (by repeat first | exact .head _ | apply List.Mem.tail) rfl) rfl ?_
  refine o_val (v_T (v_lss rfl rfl) h1) rfl ?_
  refine o_val (v_move rfl) rfl ?_
  refine o_pass rfl rfl rfl ?_
  refine o_pass rfl rfl rfl ?_
  refine o_pass rfl rfl rfl ?_
  refine o_pass rfl rfl rfl ?_
  refine o_val (v_pickT rfl rfl) rfl ?_
  refine o_nil ?_
  refine thn_n ?_
  refine w_condT rfl ?_
  refine w_seq ?_
  refine w_region ?_
  refine o_val (v_load V.s31 rfl (by repeat first | exact .head _ | apply List.Mem.tail) rfl) rfl ?_
  refine o_val (v_nil rfl) rfl ?_
  refine o_val (v_fieldAddr V.f67_4 rfl) rfl ?_
  refine o_val (v_load V.s4 rfl (by repeat first | exact .head _ | apply List.Mem.tail) rfl) rfl ?_
  refine o_val (v_assign rfl) rfl ?_
  refine o_nil ?_
  refine thn_n ?_
  refine w_ret ?_
  refine (thn_r ?_)
  exact ret_ok (G := [MM b bl sz mo B s]) (res1 rfl) ⟨rfl, rfl⟩ (Sl.Sub.trans ((fold' (.cons (by repeat first | exact .head | apply Rem.tail) (.cons (by repeat first | exact .head | apply Rem.tail) .nil)) .refl (fun w0 h hh => ms_close (s := s) rfl hh)).trans (fold' (.cons (by repeat first | exact .head | apply Rem.tail) (.cons (by repeat first | exact .head | apply Rem.tail) (.cons (by repeat first | exact .head | apply Rem.tail) .nil))) .refl (fun w0 h hh => mm_closeD (s := s) hh))) (sub (.cons (by repeat first | exact .head | apply Rem.tail) .nil) (by repeat first | exact .refl | apply Drop.skip)))
 ·
  refine w_seq ?_
  refine w_seq ?_
  refine w_region ?_
  refine o_val (v_load V.s3 rfl (by repeat first | exact .head _ | apply List.Mem.tail) rfl) rfl ?_
  refine o_val (v_F (v_lss rfl rfl) h1) rfl ?_
  refine o_val (v_move rfl) rfl ?_
  refine o_want rfl ?_
  refine o_val (v_load V.s31 rfl (by repeat first | exact .head _ | apply List.Mem.tail) rfl) rfl ?_
  refine o_want rfl ?_
  refine o_val (v_nil rfl) rfl ?_
  refine o_want rfl ?_
  refine o_val (v_fieldAddr V.f67_4 rfl) rfl ?_
  refine o_want rfl ?_
  refine o_val (v_to (v := .bool true) (v_load V.s4 rfl (by repeat first | exact .head _ | apply List.Mem.tail) rfl) (by rw [hx.resolve_left h1])) rfl ?_
  refine o_val (v_pickF rfl rfl) rfl ?_
  refine o_nil ?_
  refine thn_n ?_
  refine w_condT rfl ?_
  refine w_seq ?_
  refine w_region ?_
  refine o_val (v_load V.s31 rfl (by repeat first | exact .head _ | apply List.Mem.tail) rfl) rfl ?_
  refine o_val (v_nil rfl) rfl ?_
  refine o_val (v_fieldAddr V.f67_4 rfl) rfl ?_
  refine o_val (v_load V.s4 rfl (by repeat first | exact .head _ | apply List.Mem.tail) rfl) rfl ?_
  refine o_val (v_assign rfl) rfl ?_
  refine o_nil ?_
  refine thn_n ?_
  refine w_ret ?_
  refine (thn_r ?_)
  exact ret_ok (G := [MM b bl sz mo B s]) (res1 rfl) ⟨rfl, rfl⟩ (Sl.Sub.trans ((fold' (.cons (by repeat first | exact .head | apply Rem.tail) (.cons (by repeat first | exact .head | apply Rem.tail) .nil)) .refl (fun w0 h hh => ms_close (s := s) rfl hh)).trans (fold' (.cons (by repeat first | exact .head | apply Rem.tail) (.cons (by repeat first | exact .head | apply Rem.tail) (.cons (by repeat first | exact .head | apply Rem.tail) .nil))) .refl (fun w0 h hh => mm_closeD (s := s) hh))) (sub (.cons (by repeat first | exact .head | apply Rem.tail) .nil) (by repeat first | exact .refl | apply Drop.skip)))

set_option maxHeartbeats 2000000 in
set_option maxRecDepth 100000 in
theorem c_stepOk (b bl : Nat) (sz mo : Int) (B : List Int) (s : InfP.St) (n : Int) (hl : B.length < 500000000) (hB : BitP.Byt B) (hn : 1 ≤ n) (hok : InfP.Ok B mo s) (hm : mo < 1000000000) (he : s.ended = false) (s2 : InfP.St) (hlp : InfP.Lp B mo s.out.length n s (.ok s2)) : Ctr Try.prog 15 [.pointer (some ⟨b, 0, none⟩), .int .i64 n] [MM b bl sz mo B s] (Ret fun v G => v = .bool s2.ended ∧ G = [MM b bl sz mo B s2]) := by
 refine spec_of [(0, _), (1, _)] Try.func15 rfl Try.ntmps15 rfl rfl ?_
 intro w0 F
 have hro := hok.room
 refine w_opnR (by repeat first | exact .head | apply Rem.tail) (fun h hh => mm_open hh) ?_
 rintro ⟨li, di⟩ _
 dsimp only
 simp only [List.cons_append, List.nil_append]
 refine w_opn (fun h hh => ms_open hh) ?_
 rintro ⟨po, co⟩ _
 dsimp only
 simp only [List.cons_append, List.nil_append]
 refine w_seq ?_
 refine w_region ?_
 refine o_box rfl (cs := [_]) rfl rfl ?_
 intro b2
 refine o_box rfl (cs := [_]) rfl rfl ?_
 intro b3
 refine o_val (v_assign rfl) rfl ?_
 refine o_nil ?_
 refine thn_n ?_
 refine w_seq ?_
 refine w_seq ?_
 refine w_region ?_
 refine o_val (v_load V.s31 rfl (by repeat first | exact .head _ | apply List.Mem.tail) rfl) rfl ?_
 refine o_val (v_to (v := .bool false) (v_eqnil Try.underlying31 rfl rfl) rfl) rfl ?_
 refine o_val (v_move rfl) rfl ?_
 refine o_want rfl ?_
 refine o_val (v_load V.s31 rfl (by repeat first | exact .head _ | apply List.Mem.tail) rfl) rfl ?_
 refine o_want rfl ?_
 refine o_val (v_nil rfl) rfl ?_
 refine o_want rfl ?_
 refine o_val (v_fieldAddr V.f67_0 rfl) rfl ?_
 refine o_want rfl ?_
 refine o_val (v_load V.s63 rfl (by repeat first | exact .head _ | apply List.Mem.tail) rfl) rfl ?_
 refine o_want rfl ?_
 refine o_val (v_to (v := .bool false) (v_eqnil Try.underlying63 rfl rfl) rfl) rfl ?_
 refine o_val (v_pickF rfl rfl) rfl ?_
 refine o_nil ?_
 refine thn_n ?_
 refine w_condF rfl ?_
 refine w_skip ?_
 refine thn_n ?_
 refine w_seq ?_
 refine w_seq ?_
 refine w_region ?_
 refine o_val (v_load V.s3 rfl (by repeat first | exact .head _ | apply List.Mem.tail) rfl) rfl ?_
 refine o_val (v_F (v_lss rfl rfl) (by omega)) rfl ?_
 refine o_val (v_move rfl) rfl ?_
 refine o_want rfl ?_
 refine o_val (v_load V.s31 rfl (by repeat first | exact .head _ | apply List.Mem.tail) rfl) rfl ?_
 refine o_want rfl ?_
 refine o_val (v_nil rfl) rfl ?_
 refine o_want rfl ?_
 refine o_val (v_fieldAddr V.f67_4 rfl) rfl ?_
 refine o_want rfl ?_
 refine o_val (v_to (v := .bool false) (v_load V.s4 rfl (by repeat first | exact .head _ | apply List.Mem.tail) rfl) (by rw [he])) rfl ?_
 refine o_val (v_pickF rfl rfl) rfl ?_
 refine o_nil ?_
 refine thn_n ?_
 refine w_condF rfl ?_
 refine w_skip ?_
 refine thn_n ?_
 refine w_seq ?_
 refine w_region ?_
 refine o_val (v_load V.s31 rfl (by repeat first | exact .head _ | apply List.Mem.tail) rfl) rfl ?_
 refine o_val (v_nil rfl) rfl ?_
 refine o_val (v_fieldAddr V.f67_3 rfl) rfl ?_
 refine o_val (v_load V.s22 rfl (by repeat first | exact .head _ | apply List.Mem.tail) rfl) rfl ?_
 refine o_val (v_len (ty' := 0) Try.underlying22 rfl) rfl ?_
 refine o_alloc V.z3 rfl ?_
 intro b5
 refine o_eff (v_store V.s3 rfl rfl rfl (by repeat first | exact .head | apply Rep.tail) (by exact Nat.le_of_ble_eq_true rfl) rfl) ?_
 refine o_nil ?_
 refine thn_n ?_
 refine w_seq ?_
 refine w_sub (Sl.Sub.trans (fold' (.cons (by repeat first | exact .head | apply Rem.tail) (.cons (by repeat first | exact .head | apply Rem.tail) .nil)) .refl (fun w0 h hh => ms_close (s := s) rfl hh)) (fold' (.cons (by repeat first | exact .head | apply Rem.tail) (.cons (by repeat first | exact .head | apply Rem.tail) (.cons (by repeat first | exact .head | apply Rem.tail) .nil))) .refl (fun w0 h hh => mm_closeD (s := s) hh))) ?_
 refine w_region ?_
 refine o_val (v_fn (fs := []) (cs := [_, _, _]) rfl rfl) rfl ?_
 refine o_call (tried_ok (f := 30) (cs := [.pointer (some ⟨b2, 0, none⟩), .pointer (some ⟨b5, 0, none⟩), .pointer (some ⟨b3, 0, none⟩)]) (R := fun G => G = [Cel b2 31 [.pointer (some ⟨b, 0, none⟩)], Cel b5 3 [.int .i64 (s.out.length : Int)], Cel b3 3 [.int .i64 n], MM b bl sz mo B s2]) (Ctr.fgt ((c_step1 b2 b5 b3 b bl sz mo s.out.length n s (.ok s2) B hl hB hm (by omega) hok hlp).ok rfl)) V.b30) V.b29  rfl (.cons (by repeat first | exact .head | apply Rem.tail) (.cons (by repeat first | exact .head | apply Rem.tail) (.cons (by repeat first | exact .head | apply Rem.tail) (.cons (by repeat first | exact .head | apply Rem.tail) .nil)))) rfl ?_
 rintro _ _ ⟨rfl, rfl⟩
 refine o_val (v_assign rfl) rfl ?_
 refine o_nil ?_
 refine thn_n ?_
 refine w_seq ?_
 refine w_seq ?_
 refine w_region ?_
 refine o_val (v_move rfl) rfl ?_
 refine o_val (v_F (v_neq rfl rfl) (by decide)) rfl ?_
 refine o_nil ?_
 refine thn_n ?_
 refine w_condF rfl ?_
 refine w_skip ?_
 refine thn_n ?_
 refine w_seq ?_
 refine w_opnR (by repeat first | exact .head | apply Rem.tail) (fun h hh => mm_open hh) ?_
 rintro ⟨li2, di2⟩ _
 dsimp only
 simp only [List.cons_append, List.nil_append]
 refine w_opn (fun h hh => ms_open hh) ?_
 rintro ⟨po2, co2⟩ _
 dsimp only
 simp only [List.cons_append, List.nil_append]
 refine w_region ?_
 refine o_val (v_load V.s31 rfl (by repeat first | exact .head _ | apply List.Mem.tail) rfl) rfl ?_
 refine o_val (v_nil rfl) rfl ?_
 refine o_val (v_fieldAddr V.f67_4 rfl) rfl ?_
 refine o_val (v_load V.s4 rfl (by repeat first | exact .head _ | apply List.Mem.tail) rfl) rfl ?_
 refine o_val (v_assign rfl) rfl ?_
 refine o_nil ?_
 refine thn_n ?_
 refine w_ret ?_
 exact ret_ok (G := [MM b bl sz mo B s2]) (res1 rfl) ⟨rfl, rfl⟩ (Sl.Sub.trans ((fold' (.cons (by repeat first | exact .head | apply Rem.tail) (.cons (by repeat first | exact .head | apply Rem.tail) .nil)) .refl (fun w0 h hh => ms_close (s := s2) rfl hh)).trans (fold' (.cons (by repeat first | exact .head | apply Rem.tail) (.cons (by repeat first | exact .head | apply Rem.tail) (.cons (by repeat first | exact .head | apply Rem.tail) .nil))) .refl (fun w0 h hh => mm_closeD (s := s2) hh))) (sub (.cons (by repeat first | exact .head | apply Rem.tail) .nil) (by repeat first | exact .refl | apply Drop.skip)))

theorem mx_open {b bl : Nat} {sz mo : Int} {w0 : World} {h : Hp} (hh : MX b bl sz mo w0 h) : ∃ i : Vx, True ∧ sats w0 [Cel b 67 [.pointer (some ⟨bl, 0, none⟩), .int .i64 sz, .int .i64 mo, i.v3, i.v4, i.v5, i.v6, i.v7, i.v8, i.v9, i.v10, i.v11, i.v12]] h := hh
theorem md_open {b bl : Nat} {sz mo e : Int} {w0 : World} {h : Hp} (hh : MD b bl sz mo e w0 h) : ∃ i : Vx, True ∧ sats w0 [Cel b 67 [.pointer (some ⟨bl, 0, none⟩), .int .i64 sz, .int .i64 mo, .slice none 0 0, .bool true, .int .i64 e, i.v6, i.v7, i.v8, i.v9, i.v10, i.v11, i.v12]] h := hh

set_option maxHeartbeats 2000000 in
set_option maxRecDepth 100000 in
theorem c_stepEr (b bl : Nat) (sz mo : Int) (B : List Int) (s : InfP.St) (n : Int) (hl : B.length < 500000000) (hB : BitP.Byt B) (hn : 1 ≤ n) (hok : InfP.Ok B mo s) (hm : mo < 1000000000) (he : s.ended = false) (e : Int) (hE : e ≠ 0) (hlp : InfP.Lp B mo s.out.length n s (.error e)) : Ctr Try.prog 15 [.pointer (some ⟨b, 0, none⟩), .int .i64 n] [MM b bl sz mo B s] (Ret fun v G => v = .bool true ∧ G = [MD b bl sz mo e]) := by
 refine spec_of [(0, _), (1, _)] Try.func15 rfl Try.ntmps15 rfl rfl ?_
 intro w0 F
 have hro := hok.room
 refine w_opnR (by repeat first | exact .head | apply Rem.tail) (fun h hh => mm_open hh) ?_
 rintro ⟨li, di⟩ _
 dsimp only
 simp only [List.cons_append, List.nil_append]
 refine w_opn (fun h hh => ms_open hh) ?_
 rintro ⟨po, co⟩ _
 dsimp only
 simp only [List.cons_append, List.nil_append]
 refine w_seq ?_
 refine w_region ?_
 refine o_box rfl (cs := [_]) rfl rfl ?_
 intro b2
 refine o_box rfl (cs := [_]) rfl rfl ?_
 intro b3
 refine o_val (v_assign rfl) rfl ?_
 refine o_nil ?_
 refine thn_n ?_
 refine w_seq ?_
 refine w_seq ?_
 refine w_region ?_
 refine o_val (v_load V.s31 rfl (by repeat first | exact .head _ | apply List.Mem.tail) rfl) rfl ?_
 refine o_val (v_to (v := .bool false) (v_eqnil Try.underlying31 rfl rfl) rfl) rfl ?_
 refine o_val (v_move rfl) rfl ?_
 refine o_want rfl ?_
 refine o_val (v_load V.s31 rfl (by repeat first | exact .head _ | apply List.Mem.tail) rfl) rfl ?_
 refine o_want rfl ?_
 refine o_val (v_nil rfl) rfl ?_
 refine o_want rfl ?_
 refine o_val (v_fieldAddr V.f67_0 rfl) rfl ?_
 refine o_want rfl ?_
 refine o_val (v_load V.s63 rfl (by repeat first | exact .head _ | apply List.Mem.tail) rfl) rfl ?_
 refine o_want rfl ?_
 refine o_val (v_to (v := .bool false) (v_eqnil Try.underlying63 rfl rfl) rfl) rfl ?_
 refine o_val (v_pickF rfl rfl) rfl ?_
 refine o_nil ?_
 refine thn_n ?_
 refine w_condF rfl ?_
 refine w_skip ?_
 refine thn_n ?_
 refine w_seq ?_
 refine w_seq ?_
 refine w_region ?_
 refine o_val (v_load V.s3 rfl (by repeat first | exact .head _ | apply List.Mem.tail) rfl) rfl ?_
 refine o_val (v_F (v_lss rfl rfl) (by omega)) rfl ?_
 refine o_val (v_move rfl) rfl ?_
 refine o_want rfl ?_
 refine o_val (v_load V.s31 rfl (by repeat first | exact .head _ | apply List.Mem.tail) rfl) rfl ?_
 refine o_want rfl ?_
 refine o_val (v_nil rfl) rfl ?_
 refine o_want rfl ?_
 refine o_val (v_fieldAddr V.f67_4 rfl) rfl ?_
 refine o_want rfl ?_
 refine o_val (v_to (v := .bool false) (v_load V.s4 rfl (by repeat first | exact .head _ | apply List.Mem.tail) rfl) (by rw [he])) rfl ?_
 refine o_val (v_pickF rfl rfl) rfl ?_
 refine o_nil ?_
 refine thn_n ?_
 refine w_condF rfl ?_
 refine w_skip ?_
 refine thn_n ?_
 refine w_seq ?_
 refine w_region ?_
 refine o_val (v_load V.s31 rfl (by repeat first | exact .head _ | apply List.Mem.tail) rfl) rfl ?_
 refine o_val (v_nil rfl) rfl ?_
 refine o_val (v_fieldAddr V.f67_3 rfl) rfl ?_
 refine o_val (v_load V.s22 rfl (by repeat first | exact .head _ | apply List.Mem.tail) rfl) rfl ?_
 refine o_val (v_len (ty' := 0) Try.underlying22 rfl) rfl ?_
 refine o_alloc V.z3 rfl ?_
 intro b5
 refine o_eff (v_store V.s3 rfl rfl rfl (by repeat first | exact .head | apply Rep.tail) (by exact Nat.le_of_ble_eq_true rfl) rfl) ?_
 refine o_nil ?_
 refine thn_n ?_
 refine w_seq ?_
 refine w_sub (Sl.Sub.trans (fold' (.cons (by repeat first | exact .head | apply Rem.tail) (.cons (by repeat first | exact .head | apply Rem.tail) .nil)) .refl (fun w0 h hh => ms_close (s := s) rfl hh)) (fold' (.cons (by repeat first | exact .head | apply Rem.tail) (.cons (by repeat first | exact .head | apply Rem.tail) (.cons (by repeat first | exact .head | apply Rem.tail) .nil))) .refl (fun w0 h hh => mm_closeD (s := s) hh))) ?_
 refine w_region ?_
 refine o_val (v_fn (fs := []) (cs := [_, _, _]) rfl rfl) rfl ?_
 refine o_call (tried_no (f := 30) (cs := [.pointer (some ⟨b2, 0, none⟩), .pointer (some ⟨b5, 0, none⟩), .pointer (some ⟨b3, 0, none⟩)]) (R := fun G => G = [Cel b2 31 [.pointer (some ⟨b, 0, none⟩)], Cel b5 3 [.int .i64 (s.out.length : Int)], Cel b3 3 [.int .i64 n], MX b bl sz mo]) ((c_step1 b2 b5 b3 b bl sz mo s.out.length n s (.error e) B hl hB hm (by omega) hok hlp).err rfl) V.b30) V.b29  rfl (.cons (by repeat first | exact .head | apply Rem.tail) (.cons (by repeat first | exact .head | apply Rem.tail) (.cons (by repeat first | exact .head | apply Rem.tail) (.cons (by repeat first | exact .head | apply Rem.tail) .nil)))) rfl ?_
 rintro _ _ ⟨rfl, rfl⟩
 refine o_val (v_assign rfl) rfl ?_
 refine o_nil ?_
 refine thn_n ?_
 refine w_seq ?_
 refine w_seq ?_
 refine w_region ?_
 refine o_val (v_move rfl) rfl ?_
 refine o_val (v_T (v_neq rfl rfl) hE) rfl ?_
 refine o_nil ?_
 refine thn_n ?_
 refine w_condT rfl ?_
 refine w_opnR (by repeat first | exact .head | apply Rem.tail) (fun h hh => mx_open hh) ?_
 rintro ⟨v3, v4, v5, v6, v7, v8, v9, v10, v11, v12⟩ _
 dsimp only
 simp only [List.cons_append, List.nil_append]
 refine w_net [⟨[], [], [2], 0, 0⟩, ⟨[], [], [2], 0, 0⟩, ⟨[], [], [2], 0, 0⟩, ⟨[], [], [6], 0, 0⟩, ⟨[0], [0], [], 0, 0⟩, ⟨[0, 4], [4], [], 0, 0⟩, ⟨[0, 4, 5], [5], [], 0, 0⟩, ⟨[0, 1, 3, 4, 5, 6], [1], [], 0, 0⟩, ⟨[0, 1, 3, 4, 5, 6, 7], [7], [], 0, 0⟩, ⟨[0, 1, 3, 4, 5, 6, 7, 8], [8, 3], [], 0, 0⟩, ⟨[0, 1, 2, 3, 4, 5, 6, 7, 8, 9], [2], [], 0, 0⟩, ⟨[0, 1, 2, 3, 4, 5, 6, 7, 8, 9, 10], [10], [], 0, 0⟩, ⟨[0, 1, 2, 3, 4, 5, 6, 7, 8, 9, 10, 11], [11], [], 0, 0⟩] [⟨fun y => Cel b 67 [.pointer (some ⟨bl, 0, none⟩), .int .i64 sz, .int .i64 mo, v3, v4, v5, v6, v7, v8, v9, v10, v11, v12], none, some 6, []⟩, ⟨fun y => Cel b2 31 [.pointer (some ⟨b, 0, none⟩)], none, none, [0, 1, 2]⟩, ⟨fun y => Cel b5 3 [.int .i64 (s.out.length : Int)], none, none, []⟩, ⟨fun y => Cel b3 3 [.int .i64 n], none, none, []⟩, ⟨fun y => Cel b 67 [.pointer (some ⟨bl, 0, none⟩), .int .i64 sz, .int .i64 mo, v3, .bool true, v5, v6, v7, v8, v9, v10, v11, v12], some 6, some 9, []⟩, ⟨fun y => Cel b 67 [.pointer (some ⟨bl, 0, none⟩), .int .i64 sz, .int .i64 mo, v3, .bool true, .int .i64 e, v6, v7, v8, v9, v10, v11, v12], some 9, some 12, []⟩, ⟨fun y => Cel b 67 [.pointer (some ⟨bl, 0, none⟩), .int .i64 sz, .int .i64 mo, .slice none 0 0, .bool true, .int .i64 e, v6, v7, v8, v9, v10, v11, v12], some 12, none, []⟩] F V.mixed (by kernel_rfl) rfl (fun _ => .refl _) (locT_0 _ (locT_0 _ (locT_0 _ (locT_0 _ (locT_1 [0, 4, 5] rfl (by intro y y2 h; rfl) (locT_1 [0, 1, 3, 4, 5, 6, 7, 8] rfl (by intro y y2 h; rfl) (locT_1 [0, 1, 2, 3, 4, 5, 6, 7, 8, 9, 10, 11] rfl (by intro y y2 h; rfl) locT_nil))))))) ?_
 refine net_read (fun y => [Cel b2 31 [.pointer (some ⟨b, 0, none⟩)]]) (fun y => [(2, _)]) (fun y => rfl) rfl (fun y => rfl) rfl (fun y FF hA => st_v (v_load V.s31 rfl (by repeat first | exact .head _ | apply List.Mem.tail) rfl) ⟨rfl, rfl⟩) (by intros; rfl) (by intro y y2 h; rfl) ?_
 refine net_read (fun y => [Cel b2 31 [.pointer (some ⟨b, 0, none⟩)]]) (fun y => [(2, _)]) (fun y => rfl) rfl (fun y => rfl) rfl (fun y FF hA => st_v (v_load V.s31 rfl (by repeat first | exact .head _ | apply List.Mem.tail) rfl) ⟨rfl, rfl⟩) (by intros; rfl) (by intro y y2 h; rfl) ?_
 refine net_read (fun y => [Cel b2 31 [.pointer (some ⟨b, 0, none⟩)]]) (fun y => [(2, _)]) (fun y => rfl) rfl (fun y => rfl) rfl (fun y FF hA => st_v (v_load V.s31 rfl (by repeat first | exact .head _ | apply List.Mem.tail) rfl) ⟨rfl, rfl⟩) (by intros; rfl) (by intro y y2 h; rfl) ?_
 refine net_pure (fun y => [(6, _)]) (fun y => rfl) rfl rfl rfl (fun y hA L => st_v (v_move rfl) ⟨rfl, rfl⟩) (by intros; rfl) (by intro y y2 h; rfl) ?_
 refine net_pure (fun y => [(37, _)]) (fun y => rfl) rfl rfl rfl (fun y hA L => st_v (v_nil rfl) ⟨rfl, rfl⟩) (by intros; rfl) (by intro y y2 h; rfl) ?_
 refine net_pure (fun y => [(41, _)]) (fun y => rfl) rfl rfl rfl (fun y hA L => st_v (v_fieldAddr V.f67_4 rfl) ⟨rfl, rfl⟩) (by intros; rfl) (by intro y y2 h; rfl) ?_
 refine net_eff (fun y => [Cel b 67 [.pointer (some ⟨bl, 0, none⟩), .int .i64 sz, .int .i64 mo, v3, v4, v5, v6, v7, v8, v9, v10, v11, v12]]) (fun y => []) (fun y => [Cel b 67 [.pointer (some ⟨bl, 0, none⟩), .int .i64 sz, .int .i64 mo, v3, .bool true, v5, v6, v7, v8, v9, v10, v11, v12]]) (fun y => [(42, _)]) (fun y => rfl) (fun y => rfl) (fun y => rfl) (fun y => rfl) (fun y FF hA => st_v (v_store V.s4 rfl rfl rfl (by repeat first | exact .head | apply Rep.tail) (by exact Nat.le_of_ble_eq_true rfl) rfl) ⟨rfl, .refl _⟩) (by intros; rfl) (by intros; rfl) (by intro y y2 h; rfl) ?_
 refine net_pure (fun y => [(38, _)]) (fun y => rfl) rfl rfl rfl (fun y hA L => st_v (v_nil rfl) ⟨rfl, rfl⟩) (by intros; rfl) (by intro y y2 h; rfl) ?_
 refine net_pure (fun y => [(43, _)]) (fun y => rfl) rfl rfl rfl (fun y hA L => st_v (v_fieldAddr V.f67_5 rfl) ⟨rfl, rfl⟩) (by intros; rfl) (by intro y y2 h; rfl) ?_
 refine net_eff (fun y => [Cel b 67 [.pointer (some ⟨bl, 0, none⟩), .int .i64 sz, .int .i64 mo, v3, .bool true, v5, v6, v7, v8, v9, v10, v11, v12]]) (fun y => []) (fun y => [Cel b 67 [.pointer (some ⟨bl, 0, none⟩), .int .i64 sz, .int .i64 mo, v3, .bool true, .int .i64 e, v6, v7, v8, v9, v10, v11, v12]]) (fun y => [(44, _), (40, _)]) (fun y => rfl) (fun y => rfl) (fun y => rfl) (fun y => rfl) (fun y FF hA => st_v (v_store V.s24 rfl rfl rfl (by repeat first | exact .head | apply Rep.tail) (by exact Nat.le_of_ble_eq_true rfl) rfl) ⟨rfl, .refl _⟩) (by intros; rfl) (by intros; rfl) (by intro y y2 h; rfl) ?_
 refine net_pure (fun y => [(39, _)]) (fun y => rfl) rfl rfl rfl (fun y hA L => st_v (v_nil rfl) ⟨rfl, rfl⟩) (by intros; rfl) (by intro y y2 h; rfl) ?_
 refine net_pure (fun y => [(45, _)]) (fun y => rfl) rfl rfl rfl (fun y hA L => st_v (v_fieldAddr V.f67_3 rfl) ⟨rfl, rfl⟩) (by intros; rfl) (by intro y y2 h; rfl) ?_
 refine net_eff (fun y => [Cel b 67 [.pointer (some ⟨bl, 0, none⟩), .int .i64 sz, .int .i64 mo, v3, .bool true, .int .i64 e, v6, v7, v8, v9, v10, v11, v12]]) (fun y => []) (fun y => [Cel b 67 [.pointer (some ⟨bl, 0, none⟩), .int .i64 sz, .int .i64 mo, .slice none 0 0, .bool true, .int .i64 e, v6, v7, v8, v9, v10, v11, v12]]) (fun y => [(46, _)]) (fun y => rfl) (fun y => rfl) (fun y => rfl) (fun y => rfl) (fun y FF hA => st_v (v_store V.s22 rfl rfl rfl (by repeat first | exact .head | apply Rep.tail) (by exact Nat.le_of_ble_eq_true rfl) rfl) ⟨rfl, .refl _⟩) (by intros; rfl) (by intros; rfl) (by intro y y2 h; rfl) ?_
 refine net_nil ?_
 intro y hA
 clear hA
 refine thn_n ?_
 refine w_keep _ (.cons (d := 2) rfl (.nil _)) ?_
 refine w_sub (M := Cel b2 31 [.pointer (some ⟨b, 0, none⟩)] :: Cel b5 3 [.int .i64 (s.out.length : Int)] :: Cel b3 3 [.int .i64 n] :: Cel b 67 [.pointer (some ⟨bl, 0, none⟩), .int .i64 sz, .int .i64 mo, .slice none 0 0, .bool true, .int .i64 e, v6, v7, v8, v9, v10, v11, v12] :: F) (fun _ _ h => h) ?_
 refine w_seq ?_
 refine w_region ?_
 refine o_val (v_load V.s31 rfl (by repeat first | exact .head _ | apply List.Mem.tail) rfl) rfl ?_
 refine o_val (v_nil rfl) rfl ?_
 refine o_val (v_fieldAddr V.f67_4 rfl) rfl ?_
 refine o_val (v_load V.s4 rfl (by repeat first | exact .head _ | apply List.Mem.tail) rfl) rfl ?_
 refine o_val (v_assign rfl) rfl ?_
 refine o_nil ?_
 refine thn_n ?_
 refine w_ret ?_
 exact ret_ok (G := [MD b bl sz mo e]) (res1 rfl) ⟨rfl, rfl⟩ (fold' (.cons (by repeat first | exact .head | apply Rem.tail) .nil) (by repeat first | exact .refl | apply Drop.skip) (fun w0 h hh => md_close hh))

set_option maxHeartbeats 2000000 in
set_option maxRecDepth 100000 in
theorem c_stepDn (b bl : Nat) (sz mo : Int) (e : Int) (n : Int) : Ctr Try.prog 15 [.pointer (some ⟨b, 0, none⟩), .int .i64 n] [MD b bl sz mo e] (Ret fun v G => v = .bool true ∧ G = [MD b bl sz mo e]) := by
 refine spec_of [(0, _), (1, _)] Try.func15 rfl Try.ntmps15 rfl rfl ?_
 intro w0 F
 refine w_opnR (by repeat first | exact .head | apply Rem.tail) (fun h hh => md_open hh) ?_
 rintro ⟨v3, v4, v5, v6, v7, v8, v9, v10, v11, v12⟩ _
 dsimp only
 simp only [List.cons_append, List.nil_append]
 refine w_seq ?_
 refine w_region ?_
 refine o_box rfl (cs := [_]) rfl rfl ?_
 intro b2
 refine o_box rfl (cs := [_]) rfl rfl ?_
 intro b3
 refine o_val (v_assign rfl) rfl ?_
 refine o_nil ?_
 refine thn_n ?_
 refine w_seq ?_
 refine w_seq ?_
 refine w_region ?_
 refine o_val (v_load V.s31 rfl (by repeat first | exact .head _ | apply List.Mem.tail) rfl) rfl ?_
 refine o_val (v_to (v := .bool false) (v_eqnil Try.underlying31 rfl rfl) rfl) rfl ?_
 refine o_val (v_move rfl) rfl ?_
 refine o_want rfl ?_
 refine o_val (v_load V.s31 rfl (by repeat first | exact .head _ | apply List.Mem.tail) rfl) rfl ?_
 refine o_want rfl ?_
 refine o_val (v_nil rfl) rfl ?_
 refine o_want rfl ?_
 refine o_val (v_fieldAddr V.f67_0 rfl) rfl ?_
 refine o_want rfl ?_
 refine o_val (v_load V.s63 rfl (by repeat first | exact .head _ | apply List.Mem.tail) rfl) rfl ?_
 refine o_want rfl ?_
 refine o_val (v_to (v := .bool false) (v_eqnil Try.underlying63 rfl rfl) rfl) rfl ?_
 refine o_val (v_pickF rfl rfl) rfl ?_
 refine o_nil ?_
 refine thn_n ?_
 refine w_condF rfl ?_
 refine w_skip ?_
 refine thn_n ?_
 rcases (Classical.em (n < 1)) with h1 | h1
 ·
  refine w_seq ?_
  refine w_seq ?_
  refine w_region ?_
  refine o_val (v_load V.s3 rfl (by repeat first | exact .head _ | apply List.Mem.tail) rfl) rfl ?_
  refine o_val (v_T (v_lss rfl rfl) h1) rfl ?_
  refine o_val (v_move rfl) rfl ?_
  refine o_pass rfl rfl rfl ?_
  refine o_pass rfl rfl rfl ?_
  refine o_pass rfl rfl rfl ?_
  refine o_pass rfl rfl rfl ?_
  refine o_val (v_pickT rfl rfl) rfl ?_
  refine o_nil ?_
  refine thn_n ?_
  refine w_condT rfl ?_
  refine w_seq ?_
  refine w_region ?_
  refine o_val (v_load V.s31 rfl (by repeat first | exact .head _ | apply List.Mem.tail) rfl) rfl ?_
  refine o_val (v_nil rfl) rfl ?_
  refine o_val (v_fieldAddr V.f67_4 rfl) rfl ?_
  refine o_val (v_load V.s4 rfl (by repeat first | exact .head _ | apply List.Mem.tail) rfl) rfl ?_
  refine o_val (v_assign rfl) rfl ?_
  refine o_nil ?_
  refine thn_n ?_
  refine w_ret ?_
  refine (thn_r ?_)
  exact ret_ok (G := [MD b bl sz mo e]) (res1 rfl) ⟨rfl, rfl⟩ (fold' (.cons (by repeat first | exact .head | apply Rem.tail) .nil) (by repeat first | exact .refl | apply Drop.skip) (fun w0 h hh => md_close hh))
 ·
  refine w_seq ?_
  refine w_seq ?_
  refine w_region ?_
  refine o_val (v_load V.s3 rfl (by repeat first | exact .head _ | apply List.Mem.tail) rfl) rfl ?_
  refine o_val (v_F (v_lss rfl rfl) h1) rfl ?_
  refine o_val (v_move rfl) rfl ?_
  refine o_want rfl ?_
  refine o_val (v_load V.s31 rfl (by repeat first | exact .head _ | apply List.Mem.tail) rfl) rfl ?_
  refine o_want rfl ?_
  refine o_val (v_nil rfl) rfl ?_
  refine o_want rfl ?_
  refine o_val (v_fieldAddr V.f67_4 rfl) rfl ?_
  refine o_want rfl ?_
  refine o_val (v_load V.s4 rfl (by repeat first | exact .head _ | apply List.Mem.tail) rfl) rfl ?_
  refine o_val (v_pickF rfl rfl) rfl ?_
  refine o_nil ?_
  refine thn_n ?_
  refine w_condT rfl ?_
  refine w_seq ?_
  refine w_region ?_
  refine o_val (v_load V.s31 rfl (by repeat first | exact .head _ | apply List.Mem.tail) rfl) rfl ?_
  refine o_val (v_nil rfl) rfl ?_
  refine o_val (v_fieldAddr V.f67_4 rfl) rfl ?_
  refine o_val (v_load V.s4 rfl (by repeat first | exact .head _ | apply List.Mem.tail) rfl) rfl ?_
  refine o_val (v_assign rfl) rfl ?_
  refine o_nil ?_
  refine thn_n ?_
  refine w_ret ?_
  refine (thn_r ?_)
  exact ret_ok (G := [MD b bl sz mo e]) (res1 rfl) ⟨rfl, rfl⟩ (fold' (.cons (by repeat first | exact .head | apply Rem.tail) .nil) (by repeat first | exact .refl | apply Drop.skip) (fun w0 h hh => md_close hh))

set_option maxRecDepth 100000 in
theorem c_done (b bl : Nat) (sz mo : Int) (B : List Int) (s : InfP.St) : Ctr Try.prog 14 [.pointer (some ⟨b, 0, none⟩)] [MM b bl sz mo B s] (Ret fun v G => v = .bool s.ended ∧ G = [MM b bl sz mo B s]) := by
 refine spec_of [(0, _)] Try.func14 rfl Try.ntmps14 rfl rfl ?_
 intro w0 F
 refine w_opnR (by repeat first | exact .head | apply Rem.tail) (fun h hh => mm_open hh) ?_
 rintro ⟨li, di⟩ _
 dsimp only
 simp only [List.cons_append, List.nil_append]
 refine w_opn (fun h hh => ms_open hh) ?_
 rintro ⟨po, co⟩ _
 dsimp only
 simp only [List.cons_append, List.nil_append]
 refine w_seq ?_
 refine w_region ?_
 refine o_val (v_assign rfl) rfl ?_
 refine o_nil ?_
 refine thn_n ?_
 refine w_seq ?_
 refine w_region ?_
 refine o_val (v_move rfl) rfl ?_
 refine o_val (v_to (v := .bool true) (v_nenil Try.underlying31 rfl rfl) rfl) rfl ?_
 refine o_val (v_move rfl) rfl ?_
 refine o_want rfl ?_
 refine o_val (v_move rfl) rfl ?_
 refine o_want rfl ?_
 refine o_val (v_nil rfl) rfl ?_
 refine o_want rfl ?_
 refine o_val (v_fieldAddr V.f67_4 rfl) rfl ?_
 refine o_want rfl ?_
 refine o_val (v_load V.s4 rfl (by repeat first | exact .head _ | apply List.Mem.tail) rfl) rfl ?_
 refine o_val (v_pickT rfl rfl) rfl ?_
 refine o_val (v_assign rfl) rfl ?_
 refine o_nil ?_
 refine thn_n ?_
 refine w_ret ?_
 exact ret_ok (G := [MM b bl sz mo B s]) (res1 rfl) ⟨rfl, rfl⟩ (Sl.Sub.trans ((fold' (.cons (by repeat first | exact .head | apply Rem.tail) (.cons (by repeat first | exact .head | apply Rem.tail) .nil)) .refl (fun w0 h hh => ms_close (s := s) rfl hh)).trans (fold' (.cons (by repeat first | exact .head | apply Rem.tail) (.cons (by repeat first | exact .head | apply Rem.tail) (.cons (by repeat first | exact .head | apply Rem.tail) .nil))) .refl (fun w0 h hh => mm_closeD (s := s) hh))) (sub (.cons (by repeat first | exact .head | apply Rem.tail) .nil) (by repeat first | exact .refl | apply Drop.skip)))

set_option maxRecDepth 100000 in
theorem c_doneD (b bl : Nat) (sz mo : Int) (e : Int) : Ctr Try.prog 14 [.pointer (some ⟨b, 0, none⟩)] [MD b bl sz mo e] (Ret fun v G => v = .bool true ∧ G = [MD b bl sz mo e]) := by
 refine spec_of [(0, _)] Try.func14 rfl Try.ntmps14 rfl rfl ?_
 intro w0 F
 refine w_opnR (by repeat first | exact .head | apply Rem.tail) (fun h hh => md_open hh) ?_
 rintro ⟨v3, v4, v5, v6, v7, v8, v9, v10, v11, v12⟩ _
 dsimp only
 simp only [List.cons_append, List.nil_append]
 refine w_seq ?_
 refine w_region ?_
 refine o_val (v_assign rfl) rfl ?_
 refine o_nil ?_
 refine thn_n ?_
 refine w_seq ?_
 refine w_region ?_
 refine o_val (v_move rfl) rfl ?_
 refine o_val (v_to (v := .bool true) (v_nenil Try.underlying31 rfl rfl) rfl) rfl ?_
 refine o_val (v_move rfl) rfl ?_
 refine o_want rfl ?_
 refine o_val (v_move rfl) rfl ?_
 refine o_want rfl ?_
 refine o_val (v_nil rfl) rfl ?_
 refine o_want rfl ?_
 refine o_val (v_fieldAddr V.f67_4 rfl) rfl ?_
 refine o_want rfl ?_
 refine o_val (v_load V.s4 rfl (by repeat first | exact .head _ | apply List.Mem.tail) rfl) rfl ?_
 refine o_val (v_pickT rfl rfl) rfl ?_
 refine o_val (v_assign rfl) rfl ?_
 refine o_nil ?_
 refine thn_n ?_
 refine w_ret ?_
 exact ret_ok (G := [MD b bl sz mo e]) (res1 rfl) ⟨rfl, rfl⟩ (fold' (.cons (by repeat first | exact .head | apply Rem.tail) .nil) (by repeat first | exact .refl | apply Drop.skip) (fun w0 h hh => md_close hh))

set_option maxRecDepth 100000 in
theorem c_err (b bl : Nat) (sz mo : Int) (B : List Int) (s : InfP.St) : Ctr Try.prog 17 [.pointer (some ⟨b, 0, none⟩)] [MM b bl sz mo B s] (Ret fun v G => v = .int .i64 0 ∧ G = [MM b bl sz mo B s]) := by
 refine spec_of [(0, _)] Try.func17 rfl Try.ntmps17 rfl rfl ?_
 intro w0 F
 refine w_opnR (by repeat first | exact .head | apply Rem.tail) (fun h hh => mm_open hh) ?_
 rintro ⟨li, di⟩ _
 dsimp only
 simp only [List.cons_append, List.nil_append]
 refine w_opn (fun h hh => ms_open hh) ?_
 rintro ⟨po, co⟩ _
 dsimp only
 simp only [List.cons_append, List.nil_append]
 refine w_seq ?_
 refine w_region ?_
 refine o_val (v_assign rfl) rfl ?_
 refine o_nil ?_
 refine thn_n ?_
 refine w_seq ?_
 refine w_seq ?_
 refine w_region ?_
 refine o_val (v_move rfl) rfl ?_
 refine o_val (v_to (v := .bool false) (v_eqnil Try.underlying31 rfl rfl) rfl) rfl ?_
 refine o_nil ?_
 refine thn_n ?_
 refine w_condF rfl ?_
 refine w_skip ?_
 refine thn_n ?_
 refine w_seq ?_
 refine w_region ?_
 refine o_val (v_move rfl) rfl ?_
 refine o_val (v_nil rfl) rfl ?_
 refine o_val (v_fieldAddr V.f67_5 rfl) rfl ?_
 refine o_val (v_load V.s24 rfl (by repeat first | exact .head _ | apply List.Mem.tail) rfl) rfl ?_
 refine o_val (v_assign rfl) rfl ?_
 refine o_nil ?_
 refine thn_n ?_
 refine w_ret ?_
 exact ret_ok (G := [MM b bl sz mo B s]) (res1 rfl) ⟨rfl, rfl⟩ (Sl.Sub.trans ((fold' (.cons (by repeat first | exact .head | apply Rem.tail) (.cons (by repeat first | exact .head | apply Rem.tail) .nil)) .refl (fun w0 h hh => ms_close (s := s) rfl hh)).trans (fold' (.cons (by repeat first | exact .head | apply Rem.tail) (.cons (by repeat first | exact .head | apply Rem.tail) (.cons (by repeat first | exact .head | apply Rem.tail) .nil))) .refl (fun w0 h hh => mm_closeD (s := s) hh))) (sub (.cons (by repeat first | exact .head | apply Rem.tail) .nil) (by repeat first | exact .refl | apply Drop.skip)))

set_option maxRecDepth 100000 in
theorem c_errD (b bl : Nat) (sz mo : Int) (e : Int) : Ctr Try.prog 17 [.pointer (some ⟨b, 0, none⟩)] [MD b bl sz mo e] (Ret fun v G => v = .int .i64 e ∧ G = [MD b bl sz mo e]) := by
 refine spec_of [(0, _)] Try.func17 rfl Try.ntmps17 rfl rfl ?_
 intro w0 F
 refine w_opnR (by repeat first | exact .head | apply Rem.tail) (fun h hh => md_open hh) ?_
 rintro ⟨v3, v4, v5, v6, v7, v8, v9, v10, v11, v12⟩ _
 dsimp only
 simp only [List.cons_append, List.nil_append]
 refine w_seq ?_
 refine w_region ?_
 refine o_val (v_assign rfl) rfl ?_
 refine o_nil ?_
 refine thn_n ?_
 refine w_seq ?_
 refine w_seq ?_
 refine w_region ?_
 refine o_val (v_move rfl) rfl ?_
 refine o_val (v_to (v := .bool false) (v_eqnil Try.underlying31 rfl rfl) rfl) rfl ?_
 refine o_nil ?_
 refine thn_n ?_
 refine w_condF rfl ?_
 refine w_skip ?_
 refine thn_n ?_
 refine w_seq ?_
 refine w_region ?_
 refine o_val (v_move rfl) rfl ?_
 refine o_val (v_nil rfl) rfl ?_
 refine o_val (v_fieldAddr V.f67_5 rfl) rfl ?_
 refine o_val (v_load V.s24 rfl (by repeat first | exact .head _ | apply List.Mem.tail) rfl) rfl ?_
 refine o_val (v_assign rfl) rfl ?_
 refine o_nil ?_
 refine thn_n ?_
 refine w_ret ?_
 exact ret_ok (G := [MD b bl sz mo e]) (res1 rfl) ⟨rfl, rfl⟩ (fold' (.cons (by repeat first | exact .head | apply Rem.tail) .nil) (by repeat first | exact .refl | apply Drop.skip) (fun w0 h hh => md_close hh))

set_option maxRecDepth 100000 in
theorem c_outNo (b bl : Nat) (sz mo : Int) (B : List Int) (s : InfP.St) (he : s.ended = false) : Ctr Try.prog 16 [.pointer (some ⟨b, 0, none⟩)] [MM b bl sz mo B s] (Ret fun v G => v = .slice none 0 0 ∧ G = [MM b bl sz mo B s]) := by
 refine spec_of [(0, _)] Try.func16 rfl Try.ntmps16 rfl rfl ?_
 intro w0 F
 refine w_seq ?_
 refine w_region ?_
 refine o_val (v_assign rfl) rfl ?_
 refine o_nil ?_
 refine thn_n ?_
 refine w_seq ?_
 refine w_seq ?_
 refine w_region ?_
 refine o_val (v_move rfl) rfl ?_
 refine o_call (c_done b bl sz mo B s) V.b14  rfl (.cons (by repeat first | exact .head | apply Rem.tail) .nil) rfl ?_
 rintro _ _ ⟨rfl, rfl⟩
 rw [he]
 refine o_val (v_to (v := .bool true) (v_not rfl) rfl) rfl ?_
 refine o_nil ?_
 refine thn_n ?_
 refine w_condT rfl ?_
 refine w_seq ?_
 refine w_region ?_
 refine o_val (v_assign rfl) rfl ?_
 refine o_nil ?_
 refine thn_n ?_
 refine w_ret ?_
 refine (thn_r ?_)
 exact ret_ok (G := [MM b bl sz mo B s]) (res1 rfl) ⟨rfl, rfl⟩ (sub (.cons (by repeat first | exact .head | apply Rem.tail) .nil) (by repeat first | exact .refl | apply Drop.skip))

set_option maxHeartbeats 1000000 in
set_option maxRecDepth 100000 in
theorem c_outYes (b bl : Nat) (sz mo : Int) (B : List Int) (s : InfP.St) (hok : InfP.Ok B mo s) (hm : mo < 500000000) (he : s.ended = true) : Ctr Try.prog 16 [.pointer (some ⟨b, 0, none⟩)] [MM b bl sz mo B s] (Ret fun v G => ∃ q c, v = .slice q s.out.length c ∧ G = [Row U5 q s.out.length c s.out, MM b bl sz mo B s]) := by
 refine spec_of [(0, _)] Try.func16 rfl Try.ntmps16 rfl rfl ?_
 intro w0 F
 refine w_seq ?_
 refine w_region ?_
 refine o_val (v_assign rfl) rfl ?_
 refine o_nil ?_
 refine thn_n ?_
 refine w_seq ?_
 refine w_seq ?_
 refine w_region ?_
 refine o_val (v_move rfl) rfl ?_
 refine o_call (c_done b bl sz mo B s) V.b14  rfl (.cons (by repeat first | exact .head | apply Rem.tail) .nil) rfl ?_
 rintro _ _ ⟨rfl, rfl⟩
 rw [he]
 refine o_val (v_to (v := .bool false) (v_not rfl) rfl) rfl ?_
 refine o_nil ?_
 refine thn_n ?_
 refine w_condF rfl ?_
 refine w_skip ?_
 refine thn_n ?_
 refine w_seq ?_
 have hro := hok.room
 refine w_opnR (by repeat first | exact .head | apply Rem.tail) (fun h hh => mm_open hh) ?_
 rintro ⟨li, di⟩ _
 dsimp only
 simp only [List.cons_append, List.nil_append]
 refine w_opn (fun h hh => ms_open hh) ?_
 rintro ⟨po, co⟩ _
 dsimp only
 simp only [List.cons_append, List.nil_append]
 refine w_region ?_
 refine o_val (v_move rfl) rfl ?_
 refine o_val (v_nil rfl) rfl ?_
 refine o_val (v_fieldAddr V.f67_3 rfl) rfl ?_
 refine o_val (v_load V.s22 rfl (by repeat first | exact .head _ | apply List.Mem.tail) rfl) rfl ?_
 refine o_call (c_clone po co s.out (Row U5 po s.out.length co s.out) (fun _ _ hh => hh.rd) (by omega)) V.b32  rfl (.cons (by repeat first | exact .head | apply Rem.tail) .nil) rfl ?_
 rintro _ _ ⟨q10, c10, rfl, rfl⟩
 refine o_val (v_assign rfl) rfl ?_
 refine o_nil ?_
 refine thn_n ?_
 refine w_ret ?_
 exact ret_ok (G := [Row U5 q10 s.out.length c10 s.out, MM b bl sz mo B s]) (res1 rfl) ⟨q10, c10, rfl, rfl⟩ (Sl.Sub.trans ((fold' (.cons (by repeat first | exact .head | apply Rem.tail) (.cons (by repeat first | exact .head | apply Rem.tail) .nil)) .refl (fun w0 h hh => ms_close (s := s) rfl hh)).trans (fold' (.cons (by repeat first | exact .head | apply Rem.tail) (.cons (by repeat first | exact .head | apply Rem.tail) (.cons (by repeat first | exact .head | apply Rem.tail) .nil))) .refl (fun w0 h hh => mm_closeD (s := s) hh))) (sub (.cons (by repeat first | exact .head | apply Rem.tail) (.cons (by repeat first | exact .head | apply Rem.tail) .nil)) (by repeat first | exact .refl | apply Drop.skip)))

set_option maxHeartbeats 1000000 in
set_option maxRecDepth 100000 in
theorem c_outD (b bl : Nat) (sz mo : Int) (e : Int) : Ctr Try.prog 16 [.pointer (some ⟨b, 0, none⟩)] [MD b bl sz mo e] (Ret fun v G => ∃ q c, v = .slice q 0 c ∧ G = [Row U5 q 0 c [], MD b bl sz mo e]) := by
 refine spec_of [(0, _)] Try.func16 rfl Try.ntmps16 rfl rfl ?_
 intro w0 F
 refine w_seq ?_
 refine w_region ?_
 refine o_val (v_assign rfl) rfl ?_
 refine o_nil ?_
 refine thn_n ?_
 refine w_seq ?_
 refine w_seq ?_
 refine w_region ?_
 refine o_val (v_move rfl) rfl ?_
 refine o_call (c_doneD b bl sz mo e) V.b14  rfl (.cons (by repeat first | exact .head | apply Rem.tail) .nil) rfl ?_
 rintro _ _ ⟨rfl, rfl⟩
 refine o_val (v_to (v := .bool false) (v_not rfl) rfl) rfl ?_
 refine o_nil ?_
 refine thn_n ?_
 refine w_condF rfl ?_
 refine w_skip ?_
 refine thn_n ?_
 refine w_seq ?_
 refine w_opnR (by repeat first | exact .head | apply Rem.tail) (fun h hh => md_open hh) ?_
 rintro ⟨v3, v4, v5, v6, v7, v8, v9, v10, v11, v12⟩ _
 dsimp only
 simp only [List.cons_append, List.nil_append]
 refine w_add0 (Row U5 none 0 0 []) (Row.nil _ _ _) ?_
 refine w_region ?_
 refine o_val (v_move rfl) rfl ?_
 refine o_val (v_nil rfl) rfl ?_
 refine o_val (v_fieldAddr V.f67_3 rfl) rfl ?_
 refine o_val (v_load V.s22 rfl (by repeat first | exact .head _ | apply List.Mem.tail) rfl) rfl ?_
 refine o_call (c_clone none 0 [] (Row U5 none 0 0 []) (fun _ _ hh => hh.rd) (by decide)) V.b32  rfl (.cons (by repeat first | exact .head | apply Rem.tail) .nil) rfl ?_
 rintro _ _ ⟨q10, c10, rfl, rfl⟩
 refine o_val (v_assign rfl) rfl ?_
 refine o_nil ?_
 refine thn_n ?_
 refine w_ret ?_
 exact ret_ok (G := [Row U5 q10 0 c10 [], MD b bl sz mo e]) (res1 rfl) ⟨q10, c10, rfl, rfl⟩ (Sl.Sub.trans (fold' (.cons (by repeat first | exact .head | apply Rem.tail) .nil) .refl (fun w0 h hh => md_close hh)) (sub (.cons (by repeat first | exact .head | apply Rem.tail) (.cons (by repeat first | exact .head | apply Rem.tail) .nil)) (by repeat first | exact .refl | apply Drop.skip)))

set_option maxRecDepth 100000 in
theorem c_usedNo (b bl : Nat) (sz mo : Int) (B : List Int) (s : InfP.St) (he : s.ended = false) : Ctr Try.prog 18 [.pointer (some ⟨b, 0, none⟩)] [MM b bl sz mo B s] (Ret fun v G => v = .int .i64 0 ∧ G = [MM b bl sz mo B s]) := by
 refine spec_of [(0, _)] Try.func18 rfl Try.ntmps18 rfl rfl ?_
 intro w0 F
 refine w_seq ?_
 refine w_region ?_
 refine o_val (v_assign rfl) rfl ?_
 refine o_nil ?_
 refine thn_n ?_
 refine w_seq ?_
 refine w_seq ?_
 refine w_region ?_
 refine o_val (v_move rfl) rfl ?_
 refine o_call (c_done b bl sz mo B s) V.b14  rfl (.cons (by repeat first | exact .head | apply Rem.tail) .nil) rfl ?_
 rintro _ _ ⟨rfl, rfl⟩
 rw [he]
 refine o_val (v_to (v := .bool true) (v_not rfl) rfl) rfl ?_
 refine o_val (v_move rfl) rfl ?_
 refine o_pass rfl rfl rfl ?_
 refine o_pass rfl rfl rfl ?_
 refine o_pass rfl rfl rfl ?_
 refine o_pass rfl rfl rfl ?_
 refine o_pass rfl rfl rfl ?_
 refine o_val (v_pickT rfl rfl) rfl ?_
 refine o_nil ?_
 refine thn_n ?_
 refine w_condT rfl ?_
 refine w_seq ?_
 refine w_region ?_
 refine o_val (v_assign rfl) rfl ?_
 refine o_nil ?_
 refine thn_n ?_
 refine w_ret ?_
 refine (thn_r ?_)
 exact ret_ok (G := [MM b bl sz mo B s]) (res1 rfl) ⟨rfl, rfl⟩ (sub (.cons (by repeat first | exact .head | apply Rem.tail) .nil) (by repeat first | exact .refl | apply Drop.skip))

set_option maxRecDepth 100000 in
theorem c_usedD (b bl : Nat) (sz mo : Int) (e : Int) (hE : e ≠ 0) : Ctr Try.prog 18 [.pointer (some ⟨b, 0, none⟩)] [MD b bl sz mo e] (Ret fun v G => v = .int .i64 0 ∧ G = [MD b bl sz mo e]) := by
 refine spec_of [(0, _)] Try.func18 rfl Try.ntmps18 rfl rfl ?_
 intro w0 F
 refine w_seq ?_
 refine w_region ?_
 refine o_val (v_assign rfl) rfl ?_
 refine o_nil ?_
 refine thn_n ?_
 refine w_seq ?_
 refine w_seq ?_
 refine w_region ?_
 refine o_val (v_move rfl) rfl ?_
 refine o_call (c_doneD b bl sz mo e) V.b14  rfl (.cons (by repeat first | exact .head | apply Rem.tail) .nil) rfl ?_
 rintro _ _ ⟨rfl, rfl⟩
 refine o_opnR (by repeat first | exact .head | apply Rem.tail) (fun h hh => md_open hh) ?_
 rintro ⟨v3, v4, v5, v6, v7, v8, v9, v10, v11, v12⟩ _
 dsimp only
 simp only [List.cons_append, List.nil_append]
 refine o_val (v_to (v := .bool false) (v_not rfl) rfl) rfl ?_
 refine o_val (v_move rfl) rfl ?_
 refine o_want rfl ?_
 refine o_val (v_move rfl) rfl ?_
 refine o_want rfl ?_
 refine o_val (v_nil rfl) rfl ?_
 refine o_want rfl ?_
 refine o_val (v_fieldAddr V.f67_5 rfl) rfl ?_
 refine o_want rfl ?_
 refine o_val (v_load V.s24 rfl (by repeat first | exact .head _ | apply List.Mem.tail) rfl) rfl ?_
 refine o_want rfl ?_
 refine o_val (v_T (v_neq rfl rfl) hE) rfl ?_
 refine o_val (v_pickF rfl rfl) rfl ?_
 refine o_nil ?_
 refine thn_n ?_
 refine w_condT rfl ?_
 refine w_seq ?_
 refine w_region ?_
 refine o_val (v_assign rfl) rfl ?_
 refine o_nil ?_
 refine thn_n ?_
 refine w_ret ?_
 refine (thn_r ?_)
 exact ret_ok (G := [MD b bl sz mo e]) (res1 rfl) ⟨rfl, rfl⟩ (fold' (.cons (by repeat first | exact .head | apply Rem.tail) .nil) (by repeat first | exact .refl | apply Drop.skip) (fun w0 h hh => md_close hh))

set_option maxHeartbeats 1000000 in
set_option maxRecDepth 100000 in
theorem c_usedYes (b bl : Nat) (mo : Int) (B : List Int) (s : InfP.St) (hl : B.length < 500000000) (hok : InfP.Ok B mo s) (hm : mo < 1000000000) (he : s.ended = true) : Ctr Try.prog 18 [.pointer (some ⟨b, 0, none⟩)] [MM b bl (B.length : Int) mo B s] (Ret fun v G => v = .int .i64 (((s.at_ + 7) / 8 : Nat) : Int) ∧ G = [MM b bl (B.length : Int) mo B s]) := by
 refine spec_of [(0, _)] Try.func18 rfl Try.ntmps18 rfl rfl ?_
 intro w0 F
 refine w_seq ?_
 refine w_region ?_
 refine o_val (v_assign rfl) rfl ?_
 refine o_nil ?_
 refine thn_n ?_
 refine w_seq ?_
 refine w_seq ?_
 refine w_region ?_
 refine o_val (v_move rfl) rfl ?_
 refine o_call (c_done b bl (B.length : Int) mo B s) V.b14  rfl (.cons (by repeat first | exact .head | apply Rem.tail) .nil) rfl ?_
 rintro _ _ ⟨rfl, rfl⟩
 rw [he]
 refine o_opnR (by repeat first | exact .head | apply Rem.tail) (fun h hh => mm_open hh) ?_
 rintro ⟨li, di⟩ _
 dsimp only
 simp only [List.cons_append, List.nil_append]
 refine o_opn (fun h hh => ms_open hh) ?_
 rintro ⟨po, co⟩ _
 dsimp only
 simp only [List.cons_append, List.nil_append]
 have hat := hok.at_
 refine o_val (v_to (v := .bool false) (v_not rfl) rfl) rfl ?_
 refine o_val (v_move rfl) rfl ?_
 refine o_want rfl ?_
 refine o_val (v_move rfl) rfl ?_
 refine o_want rfl ?_
 refine o_val (v_nil rfl) rfl ?_
 refine o_want rfl ?_
 refine o_val (v_fieldAddr V.f67_5 rfl) rfl ?_
 refine o_want rfl ?_
 refine o_val (v_load V.s24 rfl (by repeat first | exact .head _ | apply List.Mem.tail) rfl) rfl ?_
 refine o_want rfl ?_
 refine o_val (v_F (v_neq rfl rfl) (by decide)) rfl ?_
 refine o_val (v_pickF rfl rfl) rfl ?_
 refine o_nil ?_
 refine thn_n ?_
 refine w_condF rfl ?_
 refine w_skip ?_
 refine thn_n ?_
 refine w_seq ?_
 refine w_net [⟨[], [], [0], 0, 0⟩, ⟨[0], [0], [], 0, 0⟩, ⟨[0, 1], [1], [], 0, 0⟩, ⟨[0, 1, 2], [2], [], 0, 0⟩, ⟨[], [], [0], 0, 0⟩, ⟨[4], [4], [], 0, 0⟩, ⟨[4, 5], [5], [], 0, 0⟩, ⟨[4, 5, 6], [6], [], 0, 0⟩, ⟨[4, 5, 6, 7], [7], [], 0, 0⟩, ⟨[4, 5, 6, 7, 8], [8], [], 0, 0⟩, ⟨[0, 1, 2, 3, 4, 5, 6, 7, 8, 9], [3, 9], [], 0, 0⟩, ⟨[0, 1, 2, 3, 4, 5, 6, 7, 8, 9, 10], [10], [], 0, 0⟩] [⟨fun y => Cel b 67 [.pointer (some ⟨bl, 0, none⟩), .int .i64 (B.length : Int), .int .i64 mo, .slice po s.out.length co, .bool s.ended, .int .i64 0, .int .i64 s.kind, .int .i64 (s.left : Int), .bool s.last, li, di, .int .i64 (s.copies : Int), .int .i64 (s.far : Int)], none, none, [3, 7]⟩, ⟨fun y => Row U5 po s.out.length co s.out, none, none, []⟩, ⟨fun y => LW bl B s.at_ [] 0, none, some 8, []⟩, ⟨fun y => CD li di s, none, none, []⟩, ⟨fun y => LW bl B s.at_ [] 0, some 8, none, []⟩] F V.mixed (by kernel_rfl) rfl (fun _ => .refl _) (locT_0 _ (locT_0 _ (locT_0 _ (locT_0 _ (locT_1 [4, 5, 6, 7] rfl (by intro y y2 h; rfl) locT_nil))))) ?_
 refine net_pure (fun y => [(0, _)]) (fun y => rfl) rfl rfl rfl (fun y hA L => st_v (v_move rfl) ⟨rfl, rfl⟩) (by intros; rfl) (by intro y y2 h; rfl) ?_
 refine net_pure (fun y => [(13, _)]) (fun y => rfl) rfl rfl rfl (fun y hA L => st_v (v_nil rfl) ⟨rfl, rfl⟩) (by intros; rfl) (by intro y y2 h; rfl) ?_
 refine net_pure (fun y => [(14, _)]) (fun y => rfl) rfl rfl rfl (fun y hA L => st_v (v_fieldAddr V.f67_1 rfl) ⟨rfl, rfl⟩) (by intros; rfl) (by intro y y2 h; rfl) ?_
 refine net_read (fun y => [Cel b 67 [.pointer (some ⟨bl, 0, none⟩), .int .i64 (B.length : Int), .int .i64 mo, .slice po s.out.length co, .bool s.ended, .int .i64 0, .int .i64 s.kind, .int .i64 (s.left : Int), .bool s.last, li, di, .int .i64 (s.copies : Int), .int .i64 (s.far : Int)]]) (fun y => [(15, _)]) (fun y => rfl) rfl (fun y => rfl) rfl (fun y FF hA => st_v (v_load V.s3 rfl (by repeat first | exact .head _ | apply List.Mem.tail) rfl) ⟨rfl, rfl⟩) (by intros; rfl) (by intro y y2 h; rfl) ?_
 refine net_pure (fun y => [(0, _)]) (fun y => rfl) rfl rfl rfl (fun y hA L => st_v (v_move rfl) ⟨rfl, rfl⟩) (by intros; rfl) (by intro y y2 h; rfl) ?_
 refine net_pure (fun y => [(17, _)]) (fun y => rfl) rfl rfl rfl (fun y hA L => st_v (v_nil rfl) ⟨rfl, rfl⟩) (by intros; rfl) (by intro y y2 h; rfl) ?_
 refine net_pure (fun y => [(18, _)]) (fun y => rfl) rfl rfl rfl (fun y hA L => st_v (v_fieldAddr V.f67_0 rfl) ⟨rfl, rfl⟩) (by intros; rfl) (by intro y y2 h; rfl) ?_
 refine net_read (fun y => [Cel b 67 [.pointer (some ⟨bl, 0, none⟩), .int .i64 (B.length : Int), .int .i64 mo, .slice po s.out.length co, .bool s.ended, .int .i64 0, .int .i64 s.kind, .int .i64 (s.left : Int), .bool s.last, li, di, .int .i64 (s.copies : Int), .int .i64 (s.far : Int)]]) (fun y => [(19, _)]) (fun y => rfl) rfl (fun y => rfl) rfl (fun y FF hA => st_v (v_load V.s63 rfl (by repeat first | exact .head _ | apply List.Mem.tail) rfl) ⟨rfl, rfl⟩) (by intros; rfl) (by intro y y2 h; rfl) ?_
 refine net_eff (fun y => [LW bl B s.at_ [] 0]) (fun y => []) (fun y => [LW bl B s.at_ [] 0]) (fun y => [(20, _)]) (fun y => rfl) (fun y => rfl) (fun y => rfl) (fun y => rfl) (fun y FF hA => st_callN (Post := [LW bl B s.at_ [] 0]) (c_Left bl B s.at_ [] 0 hl hok.at_) V.b33 rfl (.cons (by repeat first | exact .head | apply Rem.tail) .nil) (fun v G h => by rcases h with ⟨rfl, rfl⟩; exact ⟨rfl, .refl _⟩)) (by intros; rfl) (by intros; rfl) (by intro y y2 h; rfl) ?_
 refine net_pure (fun y => [(21, _)]) (fun y => rfl) rfl rfl rfl (fun y hA L => st_v (v_quo rfl rfl (by omega) (quoI (by omega) (by omega) (by omega))) ⟨rfl, rfl⟩) (by intros; rfl) (by intro y y2 h; rfl) ?_
 refine net_pure (fun y => [(16, _), (22, _)]) (fun y => rfl) rfl rfl rfl (fun y hA L => st_v (v_sub rfl rfl (wrapI (by omega) (by omega))) ⟨rfl, rfl⟩) (by intros; rfl) (by intro y y2 h; rfl) ?_
 refine net_pure (fun y => [(23, _)]) (fun y => rfl) rfl rfl rfl (fun y hA L => st_v (v_assign rfl) ⟨rfl, rfl⟩) (by intros; rfl) (by intro y y2 h; rfl) ?_
 refine net_nil ?_
 intro y hA
 clear hA
 refine thn_n ?_
 refine w_keep _ (.cons (d := 2) rfl (.nil _)) ?_
 refine w_sub (M := Cel b 67 [.pointer (some ⟨bl, 0, none⟩), .int .i64 (B.length : Int), .int .i64 mo, .slice po s.out.length co, .bool s.ended, .int .i64 0, .int .i64 s.kind, .int .i64 (s.left : Int), .bool s.last, li, di, .int .i64 (s.copies : Int), .int .i64 (s.far : Int)] :: Row U5 po s.out.length co s.out :: CD li di s :: LW bl B s.at_ [] 0 :: F) (fun _ _ h => h) ?_
 refine w_ret ?_
 rw [show (B.length : Int) - (8 * (B.length : Int) - (s.at_ : Int)) / 8 = (((s.at_ + 7) / 8 : Nat) : Int) from by omega]
 exact ret_ok (G := [MM b bl (B.length : Int) mo B s]) (res1 rfl) ⟨rfl, rfl⟩ (Sl.Sub.trans ((fold' (.cons (by repeat first | exact .head | apply Rem.tail) (.cons (by repeat first | exact .head | apply Rem.tail) .nil)) .refl (fun w0 h hh => ms_close (s := s) rfl hh)).trans (fold' (.cons (by repeat first | exact .head | apply Rem.tail) (.cons (by repeat first | exact .head | apply Rem.tail) (.cons (by repeat first | exact .head | apply Rem.tail) .nil))) .refl (fun w0 h hh => mm_closeD (s := s) hh))) (sub (.cons (by repeat first | exact .head | apply Rem.tail) .nil) (by repeat first | exact .refl | apply Drop.skip)))
end Go.Proofs.Ytoplcgkafaoafaa

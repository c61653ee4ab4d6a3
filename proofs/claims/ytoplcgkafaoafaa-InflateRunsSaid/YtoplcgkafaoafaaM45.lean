/- Steps of the proof: the walks of the functions that the statement reaches; printed by a program of ours. -/
import Derived.Test.YtoplcgkafaoafaaInfW
import Derived.Test.YtoplcgkafaoafaaM37
import Derived.Test.YtoplcgkafaoafaaM39
/-
  Steps of the proof: walks of functions that the statement reaches; printed by a program of ours.
-/
namespace Go.Proofs.Ytoplcgkafaoafaa
open Go.Sl 
set_option linter.unusedVariables false
set_option linter.unusedSimpArgs false

attribute [local irreducible] HuffP.newE HuffP.tk HuffP.ord HuffP.cntL HuffP.words HuffP.mostL InfP.frs InfP.toldC InfP.toldN InfP.toldA InfP.hL InfP.hD InfP.hC InfP.lnGo InfP.told InfP.fixL InfP.codeE InfP.rep InfP.lenE InfP.awayE InfP.sym InfP.alg BitP.numL InfP.coded InfP.begin_ InfP.one InfP.put_

set_option maxHeartbeats 1000000 in
set_option maxRecDepth 100000 in
theorem c_new (p : Option Addr) (cap : Nat) (B : List Int) (R : HProp) (hR : ∀ w0 h, R w0 h → RdR U5 p B.length B w0 h) (hl : B.length < 500000000) (mo : Int) (hm : 0 ≤ mo) : Ctr Try.prog 13 [.slice p B.length cap, .int .i64 mo] [R] (Ret fun v G => ∃ b bl, v = .pointer (some ⟨b, 0, none⟩) ∧ G = [MM b bl (B.length : Int) mo B InfP.start, R]) := by
  refine spec_of [(0, _), (1, _)] Try.func13 rfl Try.ntmps13 rfl rfl ?_
  intro w0 F
  refine w_seq ?_
  refine w_region ?_
  refine o_val (v_assign rfl) rfl ?_
  refine o_nil ?_
  refine thn_n ?_
  refine w_seq ?_
  refine w_region ?_
  refine o_val (v_move rfl) rfl ?_
  refine o_call (c_newLow p cap B R hR hl) V.b28  rfl (.cons (by repeat first | exact .head | apply Rem.tail) .nil) rfl ?_
  rintro _ _ ⟨bl7, rfl, rfl⟩
  refine o_val (v_move rfl) rfl ?_
  refine o_val (v_len (ty' := 0) Try.underlying22 rfl) rfl ?_
  refine o_val (v_move rfl) rfl ?_
  refine o_val (v_build V.pl67 V.z67 rfl (cs := [_, _, _, _, _, _, _, _, _, _, _, _, _]) rfl) rfl ?_
  refine o_box rfl (cs := [_, _, _, _, _, _, _, _, _, _, _, _, _]) rfl rfl ?_
  intro b12
  refine o_val (v_assign rfl) rfl ?_
  refine o_nil ?_
  refine thn_n ?_
  refine w_seq ?_
  refine w_seq ?_
  refine w_region ?_
  refine o_val (v_move rfl) rfl ?_
  refine o_val (v_F (v_lss rfl rfl) (by omega)) rfl ?_
  refine o_nil ?_
  refine thn_n ?_
  refine w_condF rfl ?_
  refine w_skip ?_
  refine thn_n ?_
  refine w_seq ?_
  refine w_add0 (Row U5 none 0 0 []) (Row.nil _ _ _) ?_
  refine w_region ?_
  refine o_val (v_move rfl) rfl ?_
  refine o_val (v_assign rfl) rfl ?_
  refine o_nil ?_
  refine thn_n ?_
  refine w_ret ?_
  exact ret_ok (G := [MM b12 bl7 (B.length : Int) mo B InfP.start, R]) (res1 rfl) ⟨b12, bl7, rfl, rfl⟩ (Sl.Sub.trans (Sl.Sub.trans (fold' (.cons (by repeat first | exact .head | apply Rem.tail) (.cons (by repeat first | exact .head | apply Rem.tail) .nil)) .refl (fun w0 h hh => ms_close (s := InfP.start) (li := .pointer none) (di := .pointer none) rfl hh)) (fold' (.cons (by repeat first | exact .head | apply Rem.tail) (.cons (by repeat first | exact .head | apply Rem.tail) .nil)) .refl (fun w0 h hh => mm_close0 (s := InfP.start) (by decide) hh))) (sub (.cons (by repeat first | exact .head | apply Rem.tail) (.cons (by repeat first | exact .head | apply Rem.tail) .nil)) (by repeat first | exact .refl | apply Drop.skip)))

set_option maxHeartbeats 1000000 in
set_option maxRecDepth 100000 in
theorem c_newNo (p : Option Addr) (cap : Nat) (B : List Int) (R : HProp) (hR : ∀ w0 h, R w0 h → RdR U5 p B.length B w0 h) (hl : B.length < 500000000) (mo : Int) (hm : mo < 0) : Ctr Try.prog 13 [.slice p B.length cap, .int .i64 mo] [R] (Ret fun v G => ∃ b bl, v = .pointer (some ⟨b, 0, none⟩) ∧ G = [MD b bl (B.length : Int) mo 1, R]) := by
  refine spec_of [(0, _), (1, _)] Try.func13 rfl Try.ntmps13 rfl rfl ?_
  intro w0 F
  refine w_seq ?_
  refine w_region ?_
  refine o_val (v_assign rfl) rfl ?_
  refine o_nil ?_
  refine thn_n ?_
  refine w_seq ?_
  refine w_region ?_
  refine o_val (v_move rfl) rfl ?_
  refine o_call (c_newLow p cap B R hR hl) V.b28  rfl (.cons (by repeat first | exact .head | apply Rem.tail) .nil) rfl ?_
  rintro _ _ ⟨bl7, rfl, rfl⟩
  refine o_val (v_move rfl) rfl ?_
  refine o_val (v_len (ty' := 0) Try.underlying22 rfl) rfl ?_
  refine o_val (v_move rfl) rfl ?_
  refine o_val (v_build V.pl67 V.z67 rfl (cs := [_, _, _, _, _, _, _, _, _, _, _, _, _]) rfl) rfl ?_
  refine o_box rfl (cs := [_, _, _, _, _, _, _, _, _, _, _, _, _]) rfl rfl ?_
  intro b12
  refine o_val (v_assign rfl) rfl ?_
  refine o_nil ?_
  refine thn_n ?_
  refine w_seq ?_
  refine w_seq ?_
  refine w_region ?_
  refine o_val (v_move rfl) rfl ?_
  refine o_val (v_T (v_lss rfl rfl) (by omega)) rfl ?_
  refine o_nil ?_
  refine thn_n ?_
  refine w_condT rfl ?_
  refine w_region ?_
  refine o_val (v_move rfl) rfl ?_
  refine o_val (v_move rfl) rfl ?_
  refine o_val (v_nil rfl) rfl ?_
  refine o_val (v_fieldAddr V.f67_4 rfl) rfl ?_
  refine o_eff (v_store V.s4 rfl rfl rfl (by repeat first | exact .head | apply Rep.tail) (by exact Nat.le_of_ble_eq_true rfl) rfl) ?_
  refine o_val (v_nil rfl) rfl ?_
  refine o_val (v_fieldAddr V.f67_5 rfl) rfl ?_
  refine o_eff (v_store V.s24 rfl rfl rfl (by repeat first | exact .head | apply Rep.tail) (by exact Nat.le_of_ble_eq_true rfl) rfl) ?_
  refine o_nil ?_
  refine thn_n ?_
  refine w_seq ?_
  refine w_region ?_
  refine o_val (v_move rfl) rfl ?_
  refine o_val (v_assign rfl) rfl ?_
  refine o_nil ?_
  refine thn_n ?_
  refine w_ret ?_
  exact ret_ok (G := [MD b12 bl7 (B.length : Int) mo 1, R]) (res1 rfl) ⟨b12, bl7, rfl, rfl⟩ (Sl.Sub.trans (fold' (.cons (by repeat first | exact .head | apply Rem.tail) .nil) .refl (fun w0 h hh => md_close hh)) (sub (.cons (by repeat first | exact .head | apply Rem.tail) (.cons (by repeat first | exact .head | apply Rem.tail) .nil)) (by repeat first | exact .refl | apply Drop.skip)))


theorem Ctr.add0' {P : Program} {f : FuncId} {args : List Value} {Pre Gs : List HProp} {v0 : Value} {A : HProp} (h : Ctr P f args Pre (Ret fun v G => v = v0 ∧ G = Gs)) (hA : ∀ w0, A w0 (fun _ => none)) : Ctr P f args Pre (Ret fun v G => v = v0 ∧ G = A :: Gs) := fun w0 F w hi => (h w0 F w hi).mono fun e w' ⟨G, h1, v, h2, h3, h4⟩ => by
  subst h2; subst h3; subst h4
  exact ⟨A :: G, h1.add0 (hA w0), _, rfl, rfl, rfl⟩
section
variable (b bl : Nat) (mo : Int) (B : List Int) (r : InfP.Jt)
theorem c_doneJ (sz : Int) : Ctr Try.prog 14 [.pointer (some ⟨b, 0, none⟩)] [MJ b bl sz mo B r] (Ret fun v G => v = .bool (InfP.endJ r) ∧ G = [MJ b bl sz mo B r]) := by
  cases r with
  | ok s => exact c_done b bl sz mo B s
  | error e => exact c_doneD b bl sz mo e
theorem c_errJ (sz : Int) : Ctr Try.prog 17 [.pointer (some ⟨b, 0, none⟩)] [MJ b bl sz mo B r] (Ret fun v G => v = .int .i64 (InfP.errJ r) ∧ G = [MJ b bl sz mo B r]) := by
  cases r with
  | ok s => exact c_err b bl sz mo B s
  | error e => exact c_errD b bl sz mo e
theorem c_usedJ (hl : B.length < 500000000) (hm : mo < 500000000) (hok : InfP.OkJ B mo r) : Ctr Try.prog 18 [.pointer (some ⟨b, 0, none⟩)] [MJ b bl (B.length : Int) mo B r] (Ret fun v G => v = .int .i64 (InfP.usedJ r) ∧ G = [MJ b bl (B.length : Int) mo B r]) := by
  cases r with
  | ok s =>
    cases he : s.ended with
    | true => rw [show InfP.usedJ (.ok s) = (((s.at_ + 7) / 8 : Nat) : Int) from if_pos he]; exact c_usedYes b bl mo B s hl hok (by omega) he
    | false => rw [show InfP.usedJ (.ok s) = 0 from if_neg (by rw [he]; decide)]; exact c_usedNo b bl (B.length : Int) mo B s he
  | error e => exact c_usedD b bl (B.length : Int) mo e hok
theorem c_outJ (sz : Int) (hm : mo < 500000000) (hok : InfP.OkJ B mo r) : Ctr Try.prog 16 [.pointer (some ⟨b, 0, none⟩)] [MJ b bl sz mo B r] (Ret fun v G => ∃ q c, v = .slice q (InfP.outJ r).length c ∧ G = [Row U5 q (InfP.outJ r).length c (InfP.outJ r), MJ b bl sz mo B r]) := by
  cases r with
  | ok s =>
    cases he : s.ended with
    | true => rw [show InfP.outJ (.ok s) = s.out from if_pos he]; exact c_outYes b bl sz mo B s hok hm he
    | false => rw [show InfP.outJ (.ok s) = [] from if_neg (by rw [he]; decide)]; exact (Ctr.add0' (c_outNo b bl sz mo B s he) (A := Row U5 none 0 0 []) (fun w0 => Row.nil U5 w0 _)).mono fun e G ⟨v, h1, h2, h3⟩ => ⟨v, h1, none, 0, h2, h3⟩
  | error e => exact c_outD b bl sz mo e
theorem c_stepJ (sz n : Int) (r' : InfP.Jt) (hl : B.length < 500000000) (hB : BitP.Byt B) (hm : mo < 500000000) (hok : InfP.OkJ B mo r) (hst : InfP.StepJ B mo n r r') : Ctr Try.prog 15 [.pointer (some ⟨b, 0, none⟩), .int .i64 n] [MJ b bl sz mo B r] (Ret fun v G => v = .bool (InfP.endJ r') ∧ G = [MJ b bl sz mo B r']) := by
  rcases hst with ⟨hx, rfl⟩ | ⟨hn1, s, rfl, he, hl2⟩
  · cases r' with
    | ok s => exact c_stepNo b bl sz mo B s n hok (by omega) hx
    | error e => exact c_stepDn b bl sz mo e n
  · cases r' with
    | ok s2 => exact c_stepOk b bl sz mo B s n hl hB hn1 hok (by omega) he s2 hl2
    | error e => exact c_stepEr b bl sz mo B s n hl hB hn1 hok (by omega) he e (InfP.lp_nz hl2 rfl) hl2
end


attribute [local irreducible] InfP.outJ InfP.usedJ InfP.errJ InfP.endJ InfP.Ou

set_option maxHeartbeats 1000000 in
set_option maxRecDepth 100000 in
theorem c_allOk (p : Option Addr) (cap : Nat) (B : List Int) (R : HProp) (hR : ∀ w0 h, R w0 h → RdR U5 p B.length B w0 h) (hl : B.length < 500000000) (hB : BitP.Byt B) (mo : Int) (hm : 0 ≤ mo ∧ mo < 500000000) (q : List Int × Int × Int) (hq : InfP.Res B mo q) : Ctr Try.prog 11 [.slice p B.length cap, .int .i64 mo] [R] (Ret fun v G => ∃ qq cq, v = .tuple #[.slice qq q.1.length cq, .int .i64 q.2.1, .int .i64 q.2.2] ∧ G = [Row U5 qq q.1.length cq q.1, R]) := by
  refine spec_of [(0, _), (1, _)] Try.func11 rfl Try.ntmps11 rfl rfl ?_
  intro w0 F
  refine w_seq ?_
  refine w_region ?_
  refine o_val (v_assign rfl) rfl ?_
  refine o_val (v_assign rfl) rfl ?_
  refine o_val (v_assign rfl) rfl ?_
  refine o_nil ?_
  refine thn_n ?_
  refine w_seq ?_
  refine w_region ?_
  refine o_val (v_move rfl) rfl ?_
  refine o_val (v_move rfl) rfl ?_
  refine o_call (c_new p cap B R hR hl mo hm.1) V.b13  rfl (.cons (by repeat first | exact .head | apply Rem.tail) .nil) rfl ?_
  rintro _ _ ⟨b10, bl7, rfl, rfl⟩
  refine o_val (v_assign rfl) rfl ?_
  refine o_nil ?_
  refine thn_n ?_
  refine w_seq ?_
  refine w_block ?_
  refine w_sub (M := MJ b10 bl7 (B.length : Int) mo B (.ok InfP.start) :: R :: F) (fun _ _ h => h) ?_
  refine w_loop1 (fun (r : InfP.Jt) => [(7, .pointer (some ⟨b10, 0, none⟩))]) (fun (r : InfP.Jt) => MJ b10 bl7 (B.length : Int) mo B r :: R :: F) (fun (r : InfP.Jt) => InfP.OkJ B mo r ∧ InfP.AtJ B mo InfP.start r) (fun (r : InfP.Jt) => InfP.muJ B r) (i1 (.ok InfP.start) ?_ (.cons rfl (.nil _)) (sub (.cons (by repeat first | exact .head | apply Rem.tail) (.cons (by repeat first | exact .head | apply Rem.tail) .nil)) (by repeat first | exact .refl | apply Drop.skip))) ?_
  ·
    exact ⟨InfP.start_ok hm.1, InfP.Goes.refl _ _ _⟩
  intro r
  rintro ⟨hok, hat⟩
  refine w_seq ?_
  refine w_seq ?_
  refine w_region ?_
  refine o_val (v_move rfl) rfl ?_
  refine o_call (c_doneJ b10 bl7 mo B r (B.length : Int)) V.b14  rfl (.cons (by repeat first | exact .head | apply Rem.tail) .nil) rfl ?_
  rintro _ _ ⟨rfl, rfl⟩
  refine o_val (v_not rfl) rfl ?_
  refine o_nil ?_
  refine thn_n ?_
  first | refine w_condD rfl (fun h13 => ?_) (fun h13 => ?_) | refine w_cond rfl (fun h13 => ?_) (fun h13 => ?_)
  ·
    refine w_skip ?_
    refine thn_n ?_
    refine w_block ?_
    have he : InfP.endJ r = false := by simpa using h13
    obtain ⟨r2, hst⟩ := InfP.stepJ_ex hB hok 1048576
    have hgj := InfP.stepJ_good hB hok hat hst
    refine w_region ?_
    refine o_val (v_move rfl) rfl ?_
    refine o_call (c_stepJ b10 bl7 mo B r (B.length : Int) 1048576 r2 hl hB hm.2 hok hst) V.b15  rfl (.cons (by repeat first | exact .head | apply Rem.tail) .nil) rfl ?_
    rintro _ _ ⟨rfl, rfl⟩
    refine o_nil ?_
    refine blk_n ?_
    refine j1 (r2) ?_ (.cons rfl (.nil _)) (sub (.cons (by repeat first | exact .head | apply Rem.tail) (.cons (by repeat first | exact .head | apply Rem.tail) .nil)) (by repeat first | exact .refl | apply Drop.skip))
    exact ⟨⟨hgj.ok, hgj.at_⟩, hgj.less he (by decide)⟩
  ·
    refine w_exit ?_
    refine thn_e ?_
    refine thn_e ?_
    refine blk_x ?_
    refine thn_n ?_
    refine w_seq ?_
    have he : InfP.endJ r = true := by simpa using h13
    obtain rfl := hq.det (InfP.atJ_end hm.1 hat he)
    refine w_region ?_
    refine o_val (v_move rfl) rfl ?_
    refine o_call (c_outJ b10 bl7 mo B r (B.length : Int) hm.2 hok) V.b16  rfl (.cons (by repeat first | exact .head | apply Rem.tail) .nil) rfl ?_
    rintro _ _ ⟨q17, c17, rfl, rfl⟩
    refine o_val (v_move rfl) rfl ?_
    refine o_call (c_usedJ b10 bl7 mo B r hl hm.2 hok) V.b18  rfl (.cons (by repeat first | exact .head | apply Rem.tail) .nil) rfl ?_
    rintro _ _ ⟨rfl, rfl⟩
    refine o_val (v_move rfl) rfl ?_
    refine o_call (c_errJ b10 bl7 mo B r (B.length : Int)) V.b17  rfl (.cons (by repeat first | exact .head | apply Rem.tail) .nil) rfl ?_
    rintro _ _ ⟨rfl, rfl⟩
    refine o_val (v_assign rfl) rfl ?_
    refine o_val (v_assign rfl) rfl ?_
    refine o_val (v_assign rfl) rfl ?_
    refine o_nil ?_
    refine thn_n ?_
    refine w_ret ?_
    exact ret_ok (G := [Row U5 q17 (InfP.outJ r).length c17 (InfP.outJ r), R]) (res3 rfl rfl rfl) ⟨q17, c17, rfl, rfl⟩ (sub (.cons (by repeat first | exact .head | apply Rem.tail) (.cons (by repeat first | exact .head | apply Rem.tail) .nil)) (by repeat first | exact .refl | apply Drop.skip))

set_option maxHeartbeats 1000000 in
set_option maxRecDepth 100000 in
theorem c_allNo (p : Option Addr) (cap : Nat) (B : List Int) (R : HProp) (hR : ∀ w0 h, R w0 h → RdR U5 p B.length B w0 h) (hl : B.length < 500000000) (mo : Int) (hm : mo < 0) (q : List Int × Int × Int) (hq : InfP.Res B mo q) : Ctr Try.prog 11 [.slice p B.length cap, .int .i64 mo] [R] (Ret fun v G => ∃ qq cq, v = .tuple #[.slice qq q.1.length cq, .int .i64 q.2.1, .int .i64 q.2.2] ∧ G = [Row U5 qq q.1.length cq q.1, R]) := by
  obtain rfl := hq.det (.inl ⟨hm, rfl⟩)
  refine spec_of [(0, _), (1, _)] Try.func11 rfl Try.ntmps11 rfl rfl ?_
  intro w0 F
  refine w_seq ?_
  refine w_region ?_
  refine o_val (v_assign rfl) rfl ?_
  refine o_val (v_assign rfl) rfl ?_
  refine o_val (v_assign rfl) rfl ?_
  refine o_nil ?_
  refine thn_n ?_
  refine w_seq ?_
  refine w_region ?_
  refine o_val (v_move rfl) rfl ?_
  refine o_val (v_move rfl) rfl ?_
  refine o_call (c_newNo p cap B R hR hl mo hm) V.b13  rfl (.cons (by repeat first | exact .head | apply Rem.tail) .nil) rfl ?_
  rintro _ _ ⟨b10, bl7, rfl, rfl⟩
  refine o_val (v_assign rfl) rfl ?_
  refine o_nil ?_
  refine thn_n ?_
  refine w_seq ?_
  refine w_block ?_
  refine w_loop1 (fun (z : Nat) => [(7, .pointer (some ⟨b10, 0, none⟩))]) (fun (z : Nat) => MD b10 bl7 (B.length : Int) mo 1 :: R :: F) (fun (z : Nat) => True) (fun (z : Nat) => z) (i1 (0) ?_ (.cons rfl (.nil _)) (sub (.cons (by repeat first | exact .head | apply Rem.tail) (.cons (by repeat first | exact .head | apply Rem.tail) .nil)) (by repeat first | exact .refl | apply Drop.skip))) ?_
  ·
    exact trivial
  intro z
  rintro -
  refine w_seq ?_
  refine w_seq ?_
  refine w_region ?_
  refine o_val (v_move rfl) rfl ?_
  refine o_call (c_doneD b10 bl7 (B.length : Int) mo 1) V.b14  rfl (.cons (by repeat first | exact .head | apply Rem.tail) .nil) rfl ?_
  rintro _ _ ⟨rfl, rfl⟩
  refine o_val (v_to (v := .bool false) (v_not rfl) rfl) rfl ?_
  refine o_nil ?_
  refine thn_n ?_
  refine w_condF rfl ?_
  refine w_exit ?_
  refine thn_e ?_
  refine thn_e ?_
  refine blk_x ?_
  refine thn_n ?_
  refine w_seq ?_
  refine w_region ?_
  refine o_val (v_move rfl) rfl ?_
  refine o_call (c_outD b10 bl7 (B.length : Int) mo 1) V.b16  rfl (.cons (by repeat first | exact .head | apply Rem.tail) .nil) rfl ?_
  rintro _ _ ⟨q17, c17, rfl, rfl⟩
  refine o_val (v_move rfl) rfl ?_
  refine o_call (c_usedD b10 bl7 (B.length : Int) mo 1 (by decide)) V.b18  rfl (.cons (by repeat first | exact .head | apply Rem.tail) .nil) rfl ?_
  rintro _ _ ⟨rfl, rfl⟩
  refine o_val (v_move rfl) rfl ?_
  refine o_call (c_errD b10 bl7 (B.length : Int) mo 1) V.b17  rfl (.cons (by repeat first | exact .head | apply Rem.tail) .nil) rfl ?_
  rintro _ _ ⟨rfl, rfl⟩
  refine o_val (v_assign rfl) rfl ?_
  refine o_val (v_assign rfl) rfl ?_
  refine o_val (v_assign rfl) rfl ?_
  refine o_nil ?_
  refine thn_n ?_
  refine w_ret ?_
  exact ret_ok (G := [Row U5 q17 0 c17 [], R]) (res3 rfl rfl rfl) ⟨q17, c17, rfl, rfl⟩ (sub (.cons (by repeat first | exact .head | apply Rem.tail) (.cons (by repeat first | exact .head | apply Rem.tail) .nil)) (by repeat first | exact .refl | apply Drop.skip))


/-- All: what it comes to. -/
theorem c_all (p : Option Addr) (cap : Nat) (B : List Int) (R : HProp) (hR : ∀ w0 h, R w0 h → RdR U5 p B.length B w0 h) (hl : B.length < 500000000) (hB : BitP.Byt B) (mo : Int) (hm : mo < 500000000) (q : List Int × Int × Int) (hq : InfP.Res B mo q) : Ctr Try.prog 11 [.slice p B.length cap, .int .i64 mo] [R] (Ret fun v G => ∃ qq cq, v = .tuple #[.slice qq q.1.length cq, .int .i64 q.2.1, .int .i64 q.2.2] ∧ G = [Row U5 qq q.1.length cq q.1, R]) := by
  by_cases h : mo < 0
  · exact c_allNo p cap B R hR hl mo h q hq
  · exact c_allOk p cap B R hR hl hB mo ⟨by omega, hm⟩ q hq

end Go.Proofs.Ytoplcgkafaoafaa

/-
 Steps of the proof: walks of functions that the statement reaches; printed by a program of ours.
-/
namespace Go.Proofs.Ytoplcgkafaoafaa
open Go.Sl 
set_option linter.unusedVariables false
set_option linter.unusedSimpArgs false

attribute [local irreducible] HuffP.newE HuffP.tk HuffP.ord HuffP.cntL HuffP.words HuffP.mostL InfP.frs InfP.toldC InfP.toldN InfP.toldA InfP.hL InfP.hD InfP.hC InfP.lnGo InfP.told InfP.fixL InfP.codeE InfP.rep InfP.lenE InfP.awayE InfP.sym InfP.alg BitP.numL InfP.coded InfP.begin_ InfP.one InfP.put_ InfP.lnB InfP.dsB InfP.lnM InfP.dsM

section
variable (b2 : Nat) (ls : List Int) (b : Nat) (p : Option Addr) (cap : Nat) (B : List Int) (R : HProp) (hR : ∀ w0 h, R w0 h → RdR U5 p B.length B w0 h) (sh : Bool) (a : Nat) (hE : HuffP.newE ls = 0) (hl : B.length < 500000000) (hB : BitP.Byt B) (ha : a ≤ 8 * B.length)
include hR hE hl hB ha
end

end Go.Proofs.Ytoplcgkafaoafaa

/-
  Steps of the proof: walks of functions that the statement reaches; printed by a program of ours.
-/
import Derived.Test.YtmclopghpnndnaaM37
namespace Go.Proofs.Ytmclopghpnndnaa
open Go.Sl 
set_option linter.unusedVariables false
set_option linter.unusedSimpArgs false

attribute [local irreducible] HuffP.ord HuffP.wordsK HuffP.posn HuffP.cntL HuffP.mostL HuffP.words HuffP.wordOf HuffP.lenOf HuffP.newE HuffP.left HuffP.wholeB
attribute [local irreducible] HuffP.wd HuffP.lkW HuffP.lkN HuffP.lkB

set_option maxRecDepth 100000 in
theorem h_word (b : Nat) (ls : List Int) (x : Int) : Ctr Try.prog 12 [.pointer (some ⟨b, 0, none⟩), .int .i64 x] [HC b ls] (Ret fun v G => v = .tuple #[.int .i64 (HuffP.lkW ls x), .int .i64 (HuffP.lkN ls x), .bool (HuffP.lkB ls x)] ∧ G = [HC b ls]) := by
  refine spec_of [(0, _), (1, _)] Try.func12 rfl Try.ntmps12 rfl rfl ?_
  intro w0 F
  refine w_opn (fun h hh => hh) ?_
  rintro ⟨p1, c1, p2, c2⟩ _
  dsimp only
  have hgw : 0 ≤ x → x < ls.length → W63.g (HuffP.words ls) x = HuffP.wd ls x.toNat := fun h0 h1 => HuffP.words_get (by omega)
  refine w_seq ?_
  refine w_region ?_
  refine o_val (v_assign rfl) rfl ?_
  refine o_val (v_assign rfl) rfl ?_
  refine o_val (v_assign rfl) rfl ?_
  refine o_nil ?_
  refine thn_n ?_
  refine w_seq ?_
  refine w_seq ?_
  refine w_region ?_
  refine o_val (v_move rfl) rfl ?_
  refine o_val (v_to (v := .bool false) (v_eqnil Try.underlying24 rfl rfl) rfl) rfl ?_
  refine o_val (v_move rfl) rfl ?_
  refine o_want rfl ?_
  refine o_val (v_move rfl) rfl ?_
  refine o_want rfl ?_
  refine o_val (v_lss rfl rfl) rfl ?_
  refine o_val (v_pickF rfl rfl) rfl ?_
  refine o_val (v_move rfl) rfl ?_
  first | refine o_boolD 14 rfl (fun h14 => ?_) (fun h14 => ?_) | refine o_bool 14 rfl (fun h14 => ?_) (fun h14 => ?_)
  ·
    refine o_pass rfl rfl rfl ?_
    refine o_pass rfl rfl rfl ?_
    refine o_pass rfl rfl rfl ?_
    refine o_pass rfl rfl rfl ?_
    refine o_pass rfl rfl rfl ?_
    refine o_pass rfl rfl rfl ?_
    refine o_pass rfl rfl rfl ?_
    refine o_val (v_pickT rfl rfl) rfl ?_
    refine o_val (v_move rfl) rfl ?_
    refine o_pass rfl rfl rfl ?_
    refine o_pass rfl rfl rfl ?_
    refine o_pass rfl rfl rfl ?_
    refine o_pass rfl rfl rfl ?_
    refine o_pass rfl rfl rfl ?_
    refine o_pass rfl rfl rfl ?_
    refine o_pass rfl rfl rfl ?_
    refine o_pass rfl rfl rfl ?_
    refine o_pass rfl rfl rfl ?_
    refine o_val (v_pickT rfl rfl) rfl ?_
    refine o_nil ?_
    refine thn_n ?_
    refine w_condT rfl ?_
    refine w_seq ?_
    refine w_region ?_
    refine o_val (v_assign rfl) rfl ?_
    refine o_val (v_assign rfl) rfl ?_
    refine o_val (v_assign rfl) rfl ?_
    refine o_nil ?_
    refine thn_n ?_
    refine w_ret ?_
    refine (thn_r ?_)
    obtain ⟨e1, e2, e3⟩ := HuffP.lk_none (ls := ls) (x := x) (by first | exact .inl (by omega) | exact .inr (.inl (by omega)) | exact .inr (.inr (by rw [← hgw (by omega) (by omega)]; assumption)))
    rw [e1, e2, e3]
    exact ret_ok (G := [HC b ls]) (res3 rfl rfl rfl) ⟨rfl, rfl⟩ (fold' (.cons (by repeat first | exact .head | apply Rem.tail) (.cons (by repeat first | exact .head | apply Rem.tail) (.cons (by repeat first | exact .head | apply Rem.tail) .nil))) (by repeat first | exact .refl | apply Drop.skip) (fun w0 h hh => hc_close rfl hh))
  ·
    refine o_want rfl ?_
    refine o_val (v_move rfl) rfl ?_
    refine o_want rfl ?_
    refine o_val (v_move rfl) rfl ?_
    refine o_want rfl ?_
    refine o_val (v_nil rfl) rfl ?_
    refine o_want rfl ?_
    refine o_val (v_fieldAddr V.f58_0 rfl) rfl ?_
    refine o_want rfl ?_
    refine o_val (v_load V.s55 rfl (by repeat first | exact .head _ | apply List.Mem.tail) rfl) rfl ?_
    refine o_want rfl ?_
    refine o_val (v_len (ty' := 0) Try.underlying55 rfl) rfl ?_
    refine o_want rfl ?_
    refine o_val (v_geq rfl rfl) rfl ?_
    refine o_val (v_pickF rfl rfl) rfl ?_
    refine o_val (v_move rfl) rfl ?_
    first | refine o_boolD 23 rfl (fun h23 => ?_) (fun h23 => ?_) | refine o_bool 23 rfl (fun h23 => ?_) (fun h23 => ?_)
    ·
      refine o_pass rfl rfl rfl ?_
      refine o_pass rfl rfl rfl ?_
      refine o_pass rfl rfl rfl ?_
      refine o_pass rfl rfl rfl ?_
      refine o_pass rfl rfl rfl ?_
      refine o_pass rfl rfl rfl ?_
      refine o_pass rfl rfl rfl ?_
      refine o_pass rfl rfl rfl ?_
      refine o_pass rfl rfl rfl ?_
      refine o_val (v_pickT rfl rfl) rfl ?_
      refine o_nil ?_
      refine thn_n ?_
      refine w_condT rfl ?_
      refine w_seq ?_
      refine w_region ?_
      refine o_val (v_assign rfl) rfl ?_
      refine o_val (v_assign rfl) rfl ?_
      refine o_val (v_assign rfl) rfl ?_
      refine o_nil ?_
      refine thn_n ?_
      refine w_ret ?_
      refine (thn_r ?_)
      obtain ⟨e1, e2, e3⟩ := HuffP.lk_none (ls := ls) (x := x) (by first | exact .inl (by omega) | exact .inr (.inl (by omega)) | exact .inr (.inr (by rw [← hgw (by omega) (by omega)]; assumption)))
      rw [e1, e2, e3]
      exact ret_ok (G := [HC b ls]) (res3 rfl rfl rfl) ⟨rfl, rfl⟩ (fold' (.cons (by repeat first | exact .head | apply Rem.tail) (.cons (by repeat first | exact .head | apply Rem.tail) (.cons (by repeat first | exact .head | apply Rem.tail) .nil))) (by repeat first | exact .refl | apply Drop.skip) (fun w0 h hh => hc_close rfl hh))
    ·
      refine o_want rfl ?_
      refine o_val (v_move rfl) rfl ?_
      refine o_want rfl ?_
      refine o_val (v_nil rfl) rfl ?_
      refine o_want rfl ?_
      refine o_val (v_fieldAddr V.f58_0 rfl) rfl ?_
      refine o_want rfl ?_
      refine o_val (v_load V.s55 rfl (by repeat first | exact .head _ | apply List.Mem.tail) rfl) rfl ?_
      refine o_want rfl ?_
      refine o_val (v_move rfl) rfl ?_
      refine o_want rfl ?_
      refine o_val (r_index (c := (W63)) V.sl55 rfl rfl (own (by repeat first | exact .head _ | apply List.Mem.tail)) (by omega) (by omega)) rfl ?_
      refine o_want rfl ?_
      refine o_val (v_fieldAddr V.f63_1 rfl) rfl ?_
      refine o_want rfl ?_
      refine o_val (r_loadF (c := (W63)) 1 V.s3 rfl (own (by repeat first | exact .head _ | apply List.Mem.tail)) (by omega) (by omega) rfl rfl) rfl ?_
      refine o_want rfl ?_
      refine o_val (v_eql rfl rfl) rfl ?_
      refine o_val (v_pickF rfl rfl) rfl ?_
      refine o_nil ?_
      refine thn_n ?_
      first | refine w_condD rfl (fun h33 => ?_) (fun h33 => ?_) | refine w_cond rfl (fun h33 => ?_) (fun h33 => ?_)
      ·
        refine w_seq ?_
        refine w_region ?_
        refine o_val (v_assign rfl) rfl ?_
        refine o_val (v_assign rfl) rfl ?_
        refine o_val (v_assign rfl) rfl ?_
        refine o_nil ?_
        refine thn_n ?_
        refine w_ret ?_
        refine (thn_r ?_)
        obtain ⟨e1, e2, e3⟩ := HuffP.lk_none (ls := ls) (x := x) (by first | exact .inl (by omega) | exact .inr (.inl (by omega)) | exact .inr (.inr (by rw [← hgw (by omega) (by omega)]; assumption)))
        rw [e1, e2, e3]
        exact ret_ok (G := [HC b ls]) (res3 rfl rfl rfl) ⟨rfl, rfl⟩ (fold' (.cons (by repeat first | exact .head | apply Rem.tail) (.cons (by repeat first | exact .head | apply Rem.tail) (.cons (by repeat first | exact .head | apply Rem.tail) .nil))) (by repeat first | exact .refl | apply Drop.skip) (fun w0 h hh => hc_close rfl hh))
      ·
        refine w_skip ?_
        refine thn_n ?_
        refine w_seq ?_
        refine w_region ?_
        refine o_val (v_move rfl) rfl ?_
        refine o_val (v_nil rfl) rfl ?_
        refine o_val (v_fieldAddr V.f58_0 rfl) rfl ?_
        refine o_val (v_load V.s55 rfl (by repeat first | exact .head _ | apply List.Mem.tail) rfl) rfl ?_
        refine o_val (v_move rfl) rfl ?_
        refine o_val (r_index (c := (W63)) V.sl55 rfl rfl (own (by repeat first | exact .head _ | apply List.Mem.tail)) (by omega) (by omega)) rfl ?_
        refine o_val (r_loadA (c := (W63)) V.a63 rfl (own (by repeat first | exact .head _ | apply List.Mem.tail)) (by omega) (by omega) rfl) rfl ?_
        refine o_alloc V.z63 rfl ?_
        intro b7
        refine o_eff (v_storeAgg V.a63 rfl rfl (us := [_, _]) rfl rfl (by repeat first | exact .head | apply Rep.tail) (by exact Nat.le_of_ble_eq_true rfl) rfl) ?_
        refine o_nil ?_
        refine thn_n ?_
        refine w_seq ?_
        refine w_net [⟨[], [], [7], 0, 0⟩, ⟨[0], [0], [], 0, 0⟩, ⟨[], [], [7], 0, 0⟩, ⟨[2], [2], [], 0, 0⟩, ⟨[0, 1], [1], [], 0, 0⟩, ⟨[0, 1, 2, 3, 4], [3], [], 0, 0⟩, ⟨[0, 1, 2, 3, 4, 5], [], [], 0, 0⟩] [⟨fun y => Cel b7 63 [.int .i64 (W63.g (HuffP.words ls) x).1, .int .i64 (W63.g (HuffP.words ls) x).2], none, none, [1, 3]⟩, ⟨fun y => Cel b 58 (CA [.slice p1 ls.length c1] .i64 (HuffP.cntL ls) [.slice p2 (HuffP.ord ls).length c2, .int .i64 (HuffP.mostL ls)]), none, none, []⟩, ⟨fun y => Row W63 p1 ls.length c1 (HuffP.words ls), none, none, []⟩, ⟨fun y => Row I3 p2 (HuffP.ord ls).length c2 (HuffP.ord ls), none, none, []⟩] F V.mixed (by kernel_rfl) rfl (fun _ => .refl _) (locT_0 _ (locT_0 _ (locT_0 _ (locT_0 _ locT_nil)))) ?_
        refine net_pure (fun y => [(7, _)]) (fun y => rfl) rfl rfl rfl (fun y hA L => st_v (v_fieldAddr V.f63_0 rfl) ⟨rfl, rfl⟩) (by intros; rfl) (by intro y y2 h; rfl) ?_
        refine net_read (fun y => [Cel b7 63 [.int .i64 (W63.g (HuffP.words ls) x).1, .int .i64 (W63.g (HuffP.words ls) x).2]]) (fun y => [(41, _)]) (fun y => rfl) rfl (fun y => rfl) rfl (fun y FF hA => st_v (v_load V.s3 rfl (by repeat first | exact .head _ | apply List.Mem.tail) rfl) ⟨rfl, rfl⟩) (by intros; rfl) (by intro y y2 h; rfl) ?_
        refine net_pure (fun y => [(7, _)]) (fun y => rfl) rfl rfl rfl (fun y hA L => st_v (v_fieldAddr V.f63_1 rfl) ⟨rfl, rfl⟩) (by intros; rfl) (by intro y y2 h; rfl) ?_
        refine net_read (fun y => [Cel b7 63 [.int .i64 (W63.g (HuffP.words ls) x).1, .int .i64 (W63.g (HuffP.words ls) x).2]]) (fun y => [(43, _)]) (fun y => rfl) rfl (fun y => rfl) rfl (fun y FF hA => st_v (v_load V.s3 rfl (by repeat first | exact .head _ | apply List.Mem.tail) rfl) ⟨rfl, rfl⟩) (by intros; rfl) (by intro y y2 h; rfl) ?_
        refine net_pure (fun y => [(42, _)]) (fun y => rfl) rfl rfl rfl (fun y hA L => st_v (v_assign rfl) ⟨rfl, rfl⟩) (by intros; rfl) (by intro y y2 h; rfl) ?_
        refine net_pure (fun y => [(44, _)]) (fun y => rfl) rfl rfl rfl (fun y hA L => st_v (v_assign rfl) ⟨rfl, rfl⟩) (by intros; rfl) (by intro y y2 h; rfl) ?_
        refine net_pure (fun y => []) (fun y => rfl) rfl rfl rfl (fun y hA L => st_v (v_assign rfl) ⟨rfl, rfl⟩) (by intros; rfl) (by intro y y2 h; rfl) ?_
        refine net_nil ?_
        intro y hA
        clear hA
        refine thn_n ?_
        refine w_keep _ (.cons (d := 4) rfl (.cons (d := 5) rfl (.cons (d := 6) rfl (.nil _)))) ?_
        refine w_sub (M := Cel b7 63 [.int .i64 (W63.g (HuffP.words ls) x).1, .int .i64 (W63.g (HuffP.words ls) x).2] :: Cel b 58 (CA [.slice p1 ls.length c1] .i64 (HuffP.cntL ls) [.slice p2 (HuffP.ord ls).length c2, .int .i64 (HuffP.mostL ls)]) :: Row W63 p1 ls.length c1 (HuffP.words ls) :: Row I3 p2 (HuffP.ord ls).length c2 (HuffP.ord ls) :: F) (fun _ _ h => h) ?_
        refine w_ret ?_
        obtain ⟨e1, e2, e3⟩ := HuffP.lk_some (ls := ls) (x := x) (by omega) (by omega) (by rw [← hgw (by omega) (by omega)]; assumption)
        rw [e1, e2, e3, ← hgw (by omega) (by omega)]
        exact ret_ok (G := [HC b ls]) (res3 rfl rfl rfl) ⟨rfl, rfl⟩ (fold' (.cons (by repeat first | exact .head | apply Rem.tail) (.cons (by repeat first | exact .head | apply Rem.tail) (.cons (by repeat first | exact .head | apply Rem.tail) .nil))) (by repeat first | exact .refl | apply Drop.skip) (fun w0 h hh => hc_close rfl hh))
end Go.Proofs.Ytmclopghpnndnaa

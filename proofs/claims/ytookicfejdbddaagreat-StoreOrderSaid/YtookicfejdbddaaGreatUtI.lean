/- Walks of functions that the law reaches, and what they lean on; no conditions. -/
import Derived.Test.YtookicfejdbddaaGreatUtH
set_option linter.unusedVariables false
set_option linter.unusedSimpArgs false
set_option linter.unnecessarySimpa false
set_option maxRecDepth 100000
namespace Go.Proofs.YtookicfejdbddaaGreat
open Go.Sl Go.StoreP Go.Cr
theorem s_cancel0 (b : Nat) (m : Int) (l : List It) (last : Int) (hl : l.length ≤ 1000) (i : Nat) (hi : i < l.length) (hm : idx l (isH m) = i) (hov : ov l[i] = false) : Ctr Tryz.prog 39 [.pointer (some ⟨b, 0, none⟩), .int .i64 m] [IsStore b l last, JL l] (Ret fun v G => G = [IsStore b (l.set i { IT.g l (i : Int) with can := true }) last, JL l]) := by
  refine spec_of [(0, _), (1, _)] Tryz.func39 rfl Tryz.ntmps39 rfl rfl ?_
  intro w0 F
  refine w_seq ?_
  refine w_region ?_
  refine o_alloc X.z68 rfl ?_
  intro b4
  refine o_val (v_assign rfl) rfl ?_
  refine o_nil ?_
  refine thn_n ?_
  refine w_seq ?_
  refine w_region ?_
  refine o_val (v_move rfl) rfl ?_
  refine o_val (v_move rfl) rfl ?_
  refine o_call (s_place_some b m l last hl i hi hm) X.b85  rfl (.cons (by repeat first | exact .head | apply Rem.tail) .nil) rfl ?_
  rintro _ _ ⟨rfl, rfl⟩
  refine o_val (v_assign rfl) rfl ?_
  refine o_nil ?_
  refine thn_n ?_
  refine w_seq ?_
  refine w_seq ?_
  refine w_opn (fun h hh => hh) ?_
  rintro ⟨p, cap⟩ _
  dsimp only
  refine w_region ?_
  refine o_val (v_move rfl) rfl ?_
  refine o_val (v_F (v_lss rfl rfl) (by omega)) rfl ?_
  refine o_val (v_move rfl) rfl ?_
  refine o_want rfl ?_
  refine o_val (v_move rfl) rfl ?_
  refine o_want rfl ?_
  refine o_val (v_nil rfl) rfl ?_
  refine o_want rfl ?_
  refine o_val (v_fieldAddr X.f130_0 rfl) rfl ?_
  refine o_want rfl ?_
  refine o_val (v_load X.s71 rfl (by repeat first | exact .head _ | apply List.Mem.tail) rfl) rfl ?_
  refine o_want rfl ?_
  refine o_val (v_move rfl) rfl ?_
  refine o_want rfl ?_
  refine o_val (r_index (c := (IT)) X.sl71 rfl rfl (own (by repeat first | exact .head _ | apply List.Mem.tail)) (by first | omega | (rw [List.length_set]; omega)) (by first | omega | (rw [List.length_set]; omega))) rfl ?_
  refine o_want rfl ?_
  refine o_val (r_loadA (c := (IT)) X.a68 rfl (own (by repeat first | exact .head _ | apply List.Mem.tail)) (by first | omega | (rw [List.length_set]; omega)) (by first | omega | (rw [List.length_set]; omega)) rfl) rfl ?_
  refine o_want rfl ?_
  refine o_call (s_overL l i hi false ((congrArg ov (IT.g_nat hi)).trans hov)) X.b87  rfl (.cons (by repeat first | exact .head | apply Rem.tail) .nil) rfl ?_
  rintro _ _ ⟨rfl, rfl⟩
  refine o_val (v_pickF rfl rfl) rfl ?_
  refine o_nil ?_
  refine thn_n ?_
  refine w_condF rfl ?_
  refine w_skip ?_
  refine thn_n ?_
  refine w_seq ?_
  refine w_region ?_
  refine o_val (v_move rfl) rfl ?_
  refine o_val (v_nil rfl) rfl ?_
  refine o_val (v_fieldAddr X.f130_0 rfl) rfl ?_
  refine o_val (v_load X.s71 rfl (by repeat first | exact .head _ | apply List.Mem.tail) rfl) rfl ?_
  refine o_val (v_move rfl) rfl ?_
  refine o_val (r_index (c := (IT)) X.sl71 rfl rfl (own (by repeat first | exact .head _ | apply List.Mem.tail)) (by first | omega | (rw [List.length_set]; omega)) (by first | omega | (rw [List.length_set]; omega))) rfl ?_
  refine o_val (v_fieldAddr X.f68_5 rfl) rfl ?_
  refine o_eff (r_storeF (c := (IT)) 5 ({ IT.g l (i : Int) with can := true }) X.s4 rfl rfl rfl (by repeat first | exact .head | apply Rep.tail) (by first | omega | (rw [List.length_set]; omega)) (by first | omega | (rw [List.length_set]; omega)) rfl rfl) ?_
  refine o_nil ?_
  refine thn_n ?_
  refine w_seq ?_
  refine w_region ?_
  refine o_val (v_move rfl) rfl ?_
  refine o_val (v_nil rfl) rfl ?_
  refine o_val (v_fieldAddr X.f130_0 rfl) rfl ?_
  refine o_val (v_load X.s71 rfl (by repeat first | exact .head _ | apply List.Mem.tail) rfl) rfl ?_
  refine o_val (v_move rfl) rfl ?_
  refine o_val (r_index (c := (IT)) X.sl71 rfl rfl (own (by repeat first | exact .head _ | apply List.Mem.tail)) (by first | omega | (rw [List.length_set]; omega)) (by first | omega | (rw [List.length_set]; omega))) rfl ?_
  refine o_val (r_loadA (c := (IT)) X.a68 rfl (own (by repeat first | exact .head _ | apply List.Mem.tail)) (by first | omega | (rw [List.length_set]; omega)) (by first | omega | (rw [List.length_set]; omega)) rfl) rfl ?_
  refine o_eff (v_storeAgg X.a68 rfl rfl (us := [_, _, _, _, _, _]) rfl rfl (by repeat first | exact .head | apply Rep.tail) (by exact Nat.le_of_ble_eq_true rfl) rfl) ?_
  refine o_val (v_assign rfl) rfl ?_
  refine o_nil ?_
  refine thn_n ?_
  refine w_ret ?_
  exact ret_ok (G := [IsStore b (l.set i { IT.g l (i : Int) with can := true }) last, JL l]) (resC2 X.a68 rfl (by repeat first | exact .head _ | apply List.Mem.tail) rfl rfl) rfl ((fold' (.cons (by repeat first | exact .head | apply Rem.tail) (.cons (by repeat first | exact .head | apply Rem.tail) .nil)) dd0 (fun w0 h hh => st_close (by rw [List.length_set]) hh)).trans (sub (.cons (by repeat first | exact .head | apply Rem.tail) (.cons (by repeat first | exact .head | apply Rem.tail) .nil)) (by repeat first | exact .refl | apply Drop.skip)))
theorem jl_same {l m : List It} {F : List HProp} (h : l.map (fun x => (x.j, x.dn)) = m.map (fun x => (x.j, x.dn))) : Sub (JL l :: F) (JL m :: F) := jl_eq (by
  have e : ∀ l : List It, l.map JB = (l.map (fun x => (x.j, x.dn))).map (fun q => JB ⟨0, 0, 0, q.1, false, false, q.2⟩) := fun l => by
    rw [List.map_map]
    rfl
  rw [e, e, h])
theorem map_set_same {l : List It} {i : Nat} (hi : i < l.length) {x : It} (h : (x.j, x.dn) = (l[i].j, l[i].dn)) : l.map (fun x => (x.j, x.dn)) = (l.set i x).map (fun x => (x.j, x.dn)) := by
  rw [List.map_set, h]
  have e := List.set_getElem_self (i := i) (show i < (l.map (fun x => (x.j, x.dn))).length by rw [List.length_map]; exact hi)
  rw [List.getElem_map] at e
  exact e.symm
theorem s_cancel (b : Nat) (m : Int) (l : List It) (last : Int) (hl : l.length ≤ 1000) (i : Nat) (hi : i < l.length) (hm : idx l (isH m) = i) (hov : ov l[i] = false) : Ctr Tryz.prog 39 [.pointer (some ⟨b, 0, none⟩), .int .i64 m] [IsStore b l last, JL l] (Ret fun v G => G = [IsStore b (l.set i { l[i] with can := true }) last, JL (l.set i { l[i] with can := true })]) := fun w0 F w hh => by
  refine (s_cancel0 b m l last hl i hi hm hov w0 F w hh).mono ?_
  rintro e w' ⟨G, h1, v, rfl, rfl⟩
  rw [IT.g_nat hi] at h1
  exact ⟨_, ((jl_same (map_set_same hi (x := { l[i] with can := true }) rfl)) w0 w' (h1.perm (List.Perm.swap _ _ _))).perm (List.Perm.swap _ _ _), v, rfl, rfl⟩
set_option maxHeartbeats 2000000 in
theorem s_tick0 (b : Nat) (now : Int) (l : List It) (last : Int) (hl : l.length ≤ 1000) : Ctr Tryz.prog 42 [.pointer (some ⟨b, 0, none⟩), .int .i64 now] [IsStore b l last, JL l] (Ret fun v G => ∃ p c, v = .slice p (nDue now l l.length) c ∧ G = [IsStore b (mkL now l l.length) last, JL l]) := by
  refine spec_of [(0, _), (1, _)] Tryz.func42 rfl Tryz.ntmps42 rfl rfl ?_
  intro w0 F
  refine w_opn (fun h hh => hh) ?_
  rintro ⟨p, cap⟩ _
  dsimp only
  refine w_seq ?_
  refine w_region ?_
  refine o_val (v_assign rfl) rfl ?_
  refine o_nil ?_
  refine thn_n ?_
  refine w_seq ?_
  refine w_seq ?_
  refine w_region ?_
  refine o_val (v_move rfl) rfl ?_
  refine o_val (v_to (v := .bool false) (v_eqnil Tryz.underlying62 rfl rfl) rfl) rfl ?_
  refine o_nil ?_
  refine thn_n ?_
  refine w_condF rfl ?_
  refine w_skip ?_
  refine thn_n ?_
  refine w_seq ?_
  refine w_region ?_
  refine o_val (v_assign rfl) rfl ?_
  refine o_nil ?_
  refine thn_n ?_
  refine w_seq ?_
  refine w_seq ?_
  refine w_region ?_
  refine o_val (v_move rfl) rfl ?_
  refine o_val (v_nil rfl) rfl ?_
  refine o_val (v_fieldAddr X.f130_0 rfl) rfl ?_
  refine o_val (v_load X.s71 rfl (by repeat first | exact .head _ | apply List.Mem.tail) rfl) rfl ?_
  refine o_val (v_len (ty' := 0) Tryz.underlying71 rfl) rfl ?_
  refine o_val (v_move rfl) rfl ?_
  refine o_nil ?_
  refine thn_n ?_
  refine w_block ?_
  refine w_add0 (Row IT none 0 0 []) (Row.nil _ _ _) ?_
  rw [show Row IT p l.length cap l = Row IT p l.length cap (mkL now l 0) from by rw [mkL_zero]]
  refine w_loop4 (fun (k : Nat) (po : Option Addr) (co : Nat) (out : List It) => [(0, .pointer (some ⟨b, 0, none⟩)), (1, .int .i64 now), (5, .slice po (nDue now l k) co), (13, .slice p l.length cap), (14, .int .i64 (l.length : Int)), (15, .int .i64 (k : Int))]) (fun (k : Nat) (po : Option Addr) (co : Nat) (out : List It) => Row IT po (nDue now l k) co out :: Cel b 130 [.slice p l.length cap, .int .i64 last] :: Row IT p l.length cap (mkL now l k) :: JL l :: F) (fun (k : Nat) (po : Option Addr) (co : Nat) (out : List It) => k ≤ l.length ∧ nDue now l k ≤ k) (fun (k : Nat) (po : Option Addr) (co : Nat) (out : List It) => l.length - k) (i4 (0) (none) (0) ([]) ?_ (.cons rfl (.cons rfl (.cons rfl (.cons rfl (.cons rfl (.cons rfl (.nil _))))))) (sub (.cons (by repeat first | exact .head | apply Rem.tail) (.cons (by repeat first | exact .head | apply Rem.tail) (.cons (by repeat first | exact .head | apply Rem.tail) (.cons (by repeat first | exact .head | apply Rem.tail) .nil)))) (by repeat first | exact .refl | apply Drop.skip))) ?_
  ·
    exact ⟨Nat.zero_le _, Nat.le_refl _⟩
  intro k po co out
  rintro ⟨hk, hn⟩
  refine w_seq ?_
  refine w_region ?_
  refine o_val (v_lss rfl rfl) rfl ?_
  refine o_nil ?_
  refine thn_n ?_
  refine w_seq ?_
  first | refine w_condD rfl (fun h16 => ?_) (fun h16 => ?_) | refine w_cond rfl (fun h16 => ?_) (fun h16 => ?_)
  ·
    refine w_skip ?_
    refine thn_n ?_
    refine w_seq ?_
    refine w_block ?_
    refine w_seq ?_
    have hk2 : k < l.length := by omega
    have hml := mkL_len now l k
    have hmg : (IT.g (mkL now l k) (k : Int)) = (IT.g l (k : Int)) := by rw [IT.g_nat hk2, IT.g_nat (by rw [hml]; exact hk2), mkL_get now hk2]
    refine w_region ?_
    refine o_val (v_move rfl) rfl ?_
    refine o_val (r_index (c := (IT)) X.sl71 rfl rfl (own (by repeat first | exact .head _ | apply List.Mem.tail)) (by first | omega | (rw [mkL_len]; omega) | (rw [List.length_set, mkL_len]; omega) | (simp; omega)) (by first | omega | (rw [mkL_len]; omega) | (rw [List.length_set, mkL_len]; omega) | (simp; omega))) rfl ?_
    refine o_val (r_loadA (c := (IT)) X.a68 rfl (own (by repeat first | exact .head _ | apply List.Mem.tail)) (by first | omega | (rw [mkL_len]; omega) | (rw [List.length_set, mkL_len]; omega) | (simp; omega)) (by first | omega | (rw [mkL_len]; omega) | (rw [List.length_set, mkL_len]; omega) | (simp; omega)) rfl) rfl ?_
    rw [hmg]
    refine o_alloc X.z68 rfl ?_
    intro b7
    refine o_val (v_assign rfl) rfl ?_
    refine o_eff (v_storeAgg X.a68 rfl rfl (us := [_, _, _, _, _, _]) rfl rfl (by repeat first | exact .head | apply Rep.tail) (by exact Nat.le_of_ble_eq_true rfl) rfl) ?_
    refine o_nil ?_
    refine thn_n ?_
    rcases (tick4 (now := now) hk2 (IT.g_nat hk2)) with ⟨ho, e2, e3⟩ | ⟨ho, h1, e2, e3⟩ | ⟨ho, h1, h2, e2, e3⟩ | ⟨ho, h1, h2, e2, e3⟩
    ·
      refine w_seq ?_
      refine w_seq ?_
      refine w_region ?_
      refine o_val (v_loadAgg X.a68 rfl (by repeat first | exact .head _ | apply List.Mem.tail) (vs := [_, _, _, _, _, _]) rfl rfl) rfl ?_
      refine o_call (s_overL l k hk2 true ho) X.b87  rfl (.cons (by repeat first | exact .head | apply Rem.tail) .nil) rfl ?_
      rintro _ _ ⟨rfl, rfl⟩
      refine o_val (v_move rfl) rfl ?_
      refine o_pass rfl rfl rfl ?_
      refine o_pass rfl rfl rfl ?_
      refine o_pass rfl rfl rfl ?_
      refine o_val (v_pickT rfl rfl) rfl ?_
      refine o_val (v_move rfl) rfl ?_
      refine o_pass rfl rfl rfl ?_
      refine o_pass rfl rfl rfl ?_
      refine o_pass rfl rfl rfl ?_
      refine o_pass rfl rfl rfl ?_
      refine o_val (v_pickT rfl rfl) rfl ?_
      refine o_nil ?_
      refine thn_n ?_
      refine w_condT rfl ?_
      refine w_exit ?_
      refine thn_e ?_
      refine blk_x ?_
      refine thn_n ?_
      refine w_region ?_
      refine o_val (v_add rfl rfl (wrapI (by omega) (by omega))) rfl ?_
      refine o_val (v_move rfl) rfl ?_
      refine o_nil ?_
      rw [e2, e3]
      refine j4 (k + 1) (_) (_) (_) ?_ (.cons rfl (.cons rfl (.cons rfl (.cons rfl (.cons rfl (.cons rfl (.nil _))))))) (sub (.cons (by repeat first | exact .head | apply Rem.tail) (.cons (by repeat first | exact .head | apply Rem.tail) (.cons (by repeat first | exact .head | apply Rem.tail) (.cons (by repeat first | exact .head | apply Rem.tail) .nil)))) (by repeat first | exact .refl | apply Drop.skip))
      exact ⟨⟨by omega, by omega⟩, by omega⟩
    ·
      refine w_seq ?_
      refine w_seq ?_
      refine w_region ?_
      refine o_val (v_loadAgg X.a68 rfl (by repeat first | exact .head _ | apply List.Mem.tail) (vs := [_, _, _, _, _, _]) rfl rfl) rfl ?_
      refine o_call (s_overL l k hk2 false ho) X.b87  rfl (.cons (by repeat first | exact .head | apply Rem.tail) .nil) rfl ?_
      rintro _ _ ⟨rfl, rfl⟩
      refine o_val (v_move rfl) rfl ?_
      refine o_want rfl ?_
      refine o_val (v_fieldAddr X.f68_2 rfl) rfl ?_
      refine o_want rfl ?_
      refine o_val (v_load X.s3 rfl (by repeat first | exact .head _ | apply List.Mem.tail) rfl) rfl ?_
      refine o_want rfl ?_
      refine o_val (v_T (v_lss rfl rfl) h1) rfl ?_
      refine o_val (v_pickF rfl rfl) rfl ?_
      refine o_val (v_move rfl) rfl ?_
      refine o_pass rfl rfl rfl ?_
      refine o_pass rfl rfl rfl ?_
      refine o_pass rfl rfl rfl ?_
      refine o_pass rfl rfl rfl ?_
      refine o_val (v_pickT rfl rfl) rfl ?_
      refine o_nil ?_
      refine thn_n ?_
      refine w_condT rfl ?_
      refine w_exit ?_
      refine thn_e ?_
      refine blk_x ?_
      refine thn_n ?_
      refine w_region ?_
      refine o_val (v_add rfl rfl (wrapI (by omega) (by omega))) rfl ?_
      refine o_val (v_move rfl) rfl ?_
      refine o_nil ?_
      rw [e2, e3]
      refine j4 (k + 1) (_) (_) (_) ?_ (.cons rfl (.cons rfl (.cons rfl (.cons rfl (.cons rfl (.cons rfl (.nil _))))))) (sub (.cons (by repeat first | exact .head | apply Rem.tail) (.cons (by repeat first | exact .head | apply Rem.tail) (.cons (by repeat first | exact .head | apply Rem.tail) (.cons (by repeat first | exact .head | apply Rem.tail) .nil)))) (by repeat first | exact .refl | apply Drop.skip))
      exact ⟨⟨by omega, by omega⟩, by omega⟩
    ·
      refine w_seq ?_
      refine w_seq ?_
      refine w_region ?_
      refine o_val (v_loadAgg X.a68 rfl (by repeat first | exact .head _ | apply List.Mem.tail) (vs := [_, _, _, _, _, _]) rfl rfl) rfl ?_
      refine o_call (s_overL l k hk2 false ho) X.b87  rfl (.cons (by repeat first | exact .head | apply Rem.tail) .nil) rfl ?_
      rintro _ _ ⟨rfl, rfl⟩
      refine o_val (v_move rfl) rfl ?_
      refine o_want rfl ?_
      refine o_val (v_fieldAddr X.f68_2 rfl) rfl ?_
      refine o_want rfl ?_
      refine o_val (v_load X.s3 rfl (by repeat first | exact .head _ | apply List.Mem.tail) rfl) rfl ?_
      refine o_want rfl ?_
      refine o_val (v_F (v_lss rfl rfl) h1) rfl ?_
      refine o_val (v_pickF rfl rfl) rfl ?_
      refine o_val (v_move rfl) rfl ?_
      refine o_want rfl ?_
      refine o_val (v_fieldAddr X.f68_2 rfl) rfl ?_
      refine o_want rfl ?_
      refine o_val (v_load X.s3 rfl (by repeat first | exact .head _ | apply List.Mem.tail) rfl) rfl ?_
      refine o_want rfl ?_
      refine o_val (v_move rfl) rfl ?_
      refine o_want rfl ?_
      refine o_val (v_T (v_gtr rfl rfl) h2) rfl ?_
      refine o_val (v_pickF rfl rfl) rfl ?_
      refine o_nil ?_
      refine thn_n ?_
      refine w_condT rfl ?_
      refine w_exit ?_
      refine thn_e ?_
      refine blk_x ?_
      refine thn_n ?_
      refine w_region ?_
      refine o_val (v_add rfl rfl (wrapI (by omega) (by omega))) rfl ?_
      refine o_val (v_move rfl) rfl ?_
      refine o_nil ?_
      rw [e2, e3]
      refine j4 (k + 1) (_) (_) (_) ?_ (.cons rfl (.cons rfl (.cons rfl (.cons rfl (.cons rfl (.cons rfl (.nil _))))))) (sub (.cons (by repeat first | exact .head | apply Rem.tail) (.cons (by repeat first | exact .head | apply Rem.tail) (.cons (by repeat first | exact .head | apply Rem.tail) (.cons (by repeat first | exact .head | apply Rem.tail) .nil)))) (by repeat first | exact .refl | apply Drop.skip))
      exact ⟨⟨by omega, by omega⟩, by omega⟩
    ·
      refine w_seq ?_
      refine w_seq ?_
      refine w_region ?_
      refine o_val (v_loadAgg X.a68 rfl (by repeat first | exact .head _ | apply List.Mem.tail) (vs := [_, _, _, _, _, _]) rfl rfl) rfl ?_
      refine o_call (s_overL l k hk2 false ho) X.b87  rfl (.cons (by repeat first | exact .head | apply Rem.tail) .nil) rfl ?_
      rintro _ _ ⟨rfl, rfl⟩
      refine o_val (v_move rfl) rfl ?_
      refine o_want rfl ?_
      refine o_val (v_fieldAddr X.f68_2 rfl) rfl ?_
      refine o_want rfl ?_
      refine o_val (v_load X.s3 rfl (by repeat first | exact .head _ | apply List.Mem.tail) rfl) rfl ?_
      refine o_want rfl ?_
      refine o_val (v_F (v_lss rfl rfl) h1) rfl ?_
      refine o_val (v_pickF rfl rfl) rfl ?_
      refine o_val (v_move rfl) rfl ?_
      refine o_want rfl ?_
      refine o_val (v_fieldAddr X.f68_2 rfl) rfl ?_
      refine o_want rfl ?_
      refine o_val (v_load X.s3 rfl (by repeat first | exact .head _ | apply List.Mem.tail) rfl) rfl ?_
      refine o_want rfl ?_
      refine o_val (v_move rfl) rfl ?_
      refine o_want rfl ?_
      refine o_val (v_F (v_gtr rfl rfl) h2) rfl ?_
      refine o_val (v_pickF rfl rfl) rfl ?_
      refine o_nil ?_
      refine thn_n ?_
      refine w_condF rfl ?_
      refine w_skip ?_
      refine thn_n ?_
      refine w_seq ?_
      refine w_region ?_
      refine o_val (v_move rfl) rfl ?_
      refine o_val (v_nil rfl) rfl ?_
      refine o_val (v_fieldAddr X.f130_0 rfl) rfl ?_
      refine o_val (v_load X.s71 rfl (by repeat first | exact .head _ | apply List.Mem.tail) rfl) rfl ?_
      refine o_val (v_move rfl) rfl ?_
      refine o_val (r_index (c := (IT)) X.sl71 rfl rfl (own (by repeat first | exact .head _ | apply List.Mem.tail)) (by first | omega | (rw [mkL_len]; omega) | (rw [List.length_set, mkL_len]; omega) | (simp; omega)) (by first | omega | (rw [mkL_len]; omega) | (rw [List.length_set, mkL_len]; omega) | (simp; omega))) rfl ?_
      refine o_val (v_fieldAddr X.f68_4 rfl) rfl ?_
      refine o_eff (r_storeF (c := (IT)) 4 ({ (IT.g (mkL now l k) (k : Int)) with late := true }) X.s4 rfl rfl rfl (by repeat first | exact .head | apply Rep.tail) (by first | omega | (rw [mkL_len]; omega) | (rw [List.length_set, mkL_len]; omega) | (simp; omega)) (by first | omega | (rw [mkL_len]; omega) | (rw [List.length_set, mkL_len]; omega) | (simp; omega)) rfl rfl) ?_
      rw [hmg, show ((k : Int)).toNat = k from rfl]
      refine o_nil ?_
      refine thn_n ?_
      refine w_region ?_
      refine o_val (v_move rfl) rfl ?_
      refine o_val (v_move rfl) rfl ?_
      refine o_val (v_nil rfl) rfl ?_
      refine o_val (v_fieldAddr X.f130_0 rfl) rfl ?_
      refine o_val (v_load X.s71 rfl (by repeat first | exact .head _ | apply List.Mem.tail) rfl) rfl ?_
      refine o_val (v_move rfl) rfl ?_
      refine o_val (r_index (c := (IT)) X.sl71 rfl rfl (own (by repeat first | exact .head _ | apply List.Mem.tail)) (by first | omega | (rw [mkL_len]; omega) | (rw [List.length_set, mkL_len]; omega) | (simp; omega)) (by first | omega | (rw [mkL_len]; omega) | (rw [List.length_set, mkL_len]; omega) | (simp; omega))) rfl ?_
      refine o_val (r_loadA (c := (IT)) X.a68 rfl (own (by repeat first | exact .head _ | apply List.Mem.tail)) (by first | omega | (rw [mkL_len]; omega) | (rw [List.length_set, mkL_len]; omega) | (simp; omega)) (by first | omega | (rw [mkL_len]; omega) | (rw [List.length_set, mkL_len]; omega) | (simp; omega)) rfl) rfl ?_
      refine r_build (IT) [(IT.g ((mkL now l k).set k { (IT.g l (k : Int)) with late := true }) (k : Int))] X.sl71 X.z68 rfl rfl rfl (fill_it (IT.g ((mkL now l k).set k { (IT.g l (k : Int)) with late := true }) (k : Int))) rfl rfl ?_
      intro b48
      refine r_append (c := (IT)) X.sl71 X.z68 rfl rfl rfl rfl (by repeat first | exact .head | apply Rem.tail) (own (by repeat first | exact .head _ | apply List.Mem.tail)) (by first | omega | (rw [mkL_len]; omega) | (rw [List.length_set, mkL_len]; omega) | (simp; omega)) rfl ?_
      intro p49 c49
      refine o_val (v_assign rfl) rfl ?_
      refine o_nil ?_
      refine blk_n ?_
      refine thn_n ?_
      refine w_region ?_
      refine o_val (v_add rfl rfl (wrapI (by omega) (by omega))) rfl ?_
      refine o_val (v_move rfl) rfl ?_
      refine o_nil ?_
      rw [e2, e3]
      refine j4 (k + 1) (_) (_) (_) ?_ (.cons rfl (.cons rfl (.cons rfl (.cons rfl (.cons rfl (.cons rfl (.nil _))))))) (sub (.cons (by repeat first | exact .head | apply Rem.tail) (.cons (by repeat first | exact .head | apply Rem.tail) (.cons (by repeat first | exact .head | apply Rem.tail) (.cons (by repeat first | exact .head | apply Rem.tail) .nil)))) (by repeat first | exact .refl | apply Drop.skip))
      exact ⟨⟨by omega, by omega⟩, by omega⟩
  ·
    refine w_exit ?_
    refine thn_e ?_
    refine thn_e ?_
    refine blk_x ?_
    refine thn_n ?_
    refine w_seq ?_
    refine w_region ?_
    refine o_val (v_move rfl) rfl ?_
    refine o_val (v_assign rfl) rfl ?_
    refine o_nil ?_
    refine thn_n ?_
    refine w_ret ?_
    obtain rfl : k = l.length := by omega
    exact ret_ok (G := [IsStore b (mkL now l l.length) last, JL l]) (res1 rfl) ⟨po, co, rfl, rfl⟩ ((fold' (.cons (by repeat first | exact .head | apply Rem.tail) (.cons (by repeat first | exact .head | apply Rem.tail) .nil)) dd0 (fun w0 h hh => st_close (mkL_len now l l.length).symm hh)).trans (sub (.cons (by repeat first | exact .head | apply Rem.tail) (.cons (by repeat first | exact .head | apply Rem.tail) .nil)) (by repeat first | exact .refl | apply Drop.skip)))
end Go.Proofs.YtookicfejdbddaaGreat

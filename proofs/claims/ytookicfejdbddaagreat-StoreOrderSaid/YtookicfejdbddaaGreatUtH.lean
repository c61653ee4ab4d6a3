/- Walks of functions that the law reaches, and what they lean on; no conditions. -/
import Derived.Test.YtookicfejdbddaaGreatUtC
import Derived.Test.YtookicfejdbddaaGreatUtJ
set_option linter.unusedVariables false
set_option linter.unusedSimpArgs false
set_option linter.unnecessarySimpa false
set_option maxRecDepth 100000
namespace Go.Proofs.YtookicfejdbddaaGreat
open Go.Sl Go.StoreP Go.Cr
theorem s_over1 (h c d : Int) (j : Option Addr) (can dn : Bool) : Ctr Tryz.prog 87 [.agg (enc ⟨h, c, d, j, true, can, dn⟩).toArray] [] (Ret fun v G => v = .bool true ∧ G = []) := by
  refine spec_of [(0, _)] Tryz.func87 rfl Tryz.ntmps87 rfl rfl ?_
  intro w0 F
  refine w_seq ?_
  refine w_region ?_
  refine o_box rfl (cs := [_, _, _, _, _, _]) rfl rfl ?_
  intro b1
  refine o_val (v_assign rfl) rfl ?_
  refine o_nil ?_
  refine thn_n ?_
  refine w_seq ?_
  refine w_region ?_
  refine o_val (v_fieldAddr X.f68_4 rfl) rfl ?_
  refine o_val (v_load X.s4 rfl (by repeat first | exact .head _ | apply List.Mem.tail) rfl) rfl ?_
  refine o_val (v_move rfl) rfl ?_
  refine o_pass rfl rfl rfl ?_
  refine o_pass rfl rfl rfl ?_
  refine o_val (v_pickT rfl rfl) rfl ?_
  refine o_val (v_move rfl) rfl ?_
  refine o_pass rfl rfl rfl ?_
  refine o_pass rfl rfl rfl ?_
  refine o_pass rfl rfl rfl ?_
  refine o_pass rfl rfl rfl ?_
  refine o_val (v_pickT rfl rfl) rfl ?_
  refine o_val (v_assign rfl) rfl ?_
  refine o_nil ?_
  refine thn_n ?_
  refine w_ret ?_
  exact ret_ok (G := []) (res1 rfl) ⟨rfl, rfl⟩ (sub .nil (by repeat first | exact .refl | apply Drop.skip))
theorem s_over2 (h c d : Int) (j : Option Addr) (can dn : Bool) : Ctr Tryz.prog 87 [.agg (enc ⟨h, c, d, j, false, true, dn⟩).toArray] [] (Ret fun v G => v = .bool true ∧ G = []) := by
  refine spec_of [(0, _)] Tryz.func87 rfl Tryz.ntmps87 rfl rfl ?_
  intro w0 F
  refine w_seq ?_
  refine w_region ?_
  refine o_box rfl (cs := [_, _, _, _, _, _]) rfl rfl ?_
  intro b1
  refine o_val (v_assign rfl) rfl ?_
  refine o_nil ?_
  refine thn_n ?_
  refine w_seq ?_
  refine w_region ?_
  refine o_val (v_fieldAddr X.f68_4 rfl) rfl ?_
  refine o_val (v_load X.s4 rfl (by repeat first | exact .head _ | apply List.Mem.tail) rfl) rfl ?_
  refine o_val (v_move rfl) rfl ?_
  refine o_want rfl ?_
  refine o_val (v_fieldAddr X.f68_5 rfl) rfl ?_
  refine o_want rfl ?_
  refine o_val (v_load X.s4 rfl (by repeat first | exact .head _ | apply List.Mem.tail) rfl) rfl ?_
  refine o_val (v_pickF rfl rfl) rfl ?_
  refine o_val (v_move rfl) rfl ?_
  refine o_pass rfl rfl rfl ?_
  refine o_pass rfl rfl rfl ?_
  refine o_pass rfl rfl rfl ?_
  refine o_pass rfl rfl rfl ?_
  refine o_val (v_pickT rfl rfl) rfl ?_
  refine o_val (v_assign rfl) rfl ?_
  refine o_nil ?_
  refine thn_n ?_
  refine w_ret ?_
  exact ret_ok (G := []) (res1 rfl) ⟨rfl, rfl⟩ (sub .nil (by repeat first | exact .refl | apply Drop.skip))
theorem s_over3 (h c d : Int) (j : Option Addr) (can dn : Bool) : Ctr Tryz.prog 87 [.agg (enc ⟨h, c, d, j, false, false, false⟩).toArray] [JobW j] (Ret fun v G => v = .bool false ∧ G = [JobW j]) := by
  refine spec_of [(0, _)] Tryz.func87 rfl Tryz.ntmps87 rfl rfl ?_
  intro w0 F
  refine w_seq ?_
  refine w_region ?_
  refine o_box rfl (cs := [_, _, _, _, _, _]) rfl rfl ?_
  intro b1
  refine o_val (v_assign rfl) rfl ?_
  refine o_nil ?_
  refine thn_n ?_
  refine w_seq ?_
  refine w_region ?_
  refine o_val (v_fieldAddr X.f68_4 rfl) rfl ?_
  refine o_val (v_load X.s4 rfl (by repeat first | exact .head _ | apply List.Mem.tail) rfl) rfl ?_
  refine o_val (v_move rfl) rfl ?_
  refine o_want rfl ?_
  refine o_val (v_fieldAddr X.f68_5 rfl) rfl ?_
  refine o_want rfl ?_
  refine o_val (v_load X.s4 rfl (by repeat first | exact .head _ | apply List.Mem.tail) rfl) rfl ?_
  refine o_val (v_pickF rfl rfl) rfl ?_
  refine o_val (v_move rfl) rfl ?_
  refine o_want rfl ?_
  refine o_val (v_fieldAddr X.f68_3 rfl) rfl ?_
  refine o_want rfl ?_
  refine o_val (v_load X.s58 rfl (by repeat first | exact .head _ | apply List.Mem.tail) rfl) rfl ?_
  refine o_want rfl ?_
  refine o_call (c_stW j) X.b81  rfl (.cons (by repeat first | exact .head | apply Rem.tail) .nil) rfl ?_
  rintro _ _ ⟨rfl, rfl⟩
  refine o_want rfl ?_
  refine o_val (v_F (v_neq rfl rfl) (by simp)) rfl ?_
  refine o_val (v_pickF rfl rfl) rfl ?_
  refine o_val (v_assign rfl) rfl ?_
  refine o_nil ?_
  refine thn_n ?_
  refine w_ret ?_
  exact ret_ok (G := [_]) (res1 rfl) ⟨rfl, rfl⟩ (sub (.cons (by repeat first | exact .head | apply Rem.tail) .nil) (by repeat first | exact .refl | apply Drop.skip))
theorem s_over4 (h c d : Int) (j : Option Addr) (can dn : Bool) : Ctr Tryz.prog 87 [.agg (enc ⟨h, c, d, j, false, false, true⟩).toArray] [JobD j] (Ret fun v G => v = .bool true ∧ G = [JobD j]) := by
  refine spec_of [(0, _)] Tryz.func87 rfl Tryz.ntmps87 rfl rfl ?_
  intro w0 F
  refine w_seq ?_
  refine w_region ?_
  refine o_box rfl (cs := [_, _, _, _, _, _]) rfl rfl ?_
  intro b1
  refine o_val (v_assign rfl) rfl ?_
  refine o_nil ?_
  refine thn_n ?_
  refine w_seq ?_
  refine w_region ?_
  refine o_val (v_fieldAddr X.f68_4 rfl) rfl ?_
  refine o_val (v_load X.s4 rfl (by repeat first | exact .head _ | apply List.Mem.tail) rfl) rfl ?_
  refine o_val (v_move rfl) rfl ?_
  refine o_want rfl ?_
  refine o_val (v_fieldAddr X.f68_5 rfl) rfl ?_
  refine o_want rfl ?_
  refine o_val (v_load X.s4 rfl (by repeat first | exact .head _ | apply List.Mem.tail) rfl) rfl ?_
  refine o_val (v_pickF rfl rfl) rfl ?_
  refine o_val (v_move rfl) rfl ?_
  refine o_want rfl ?_
  refine o_val (v_fieldAddr X.f68_3 rfl) rfl ?_
  refine o_want rfl ?_
  refine o_val (v_load X.s58 rfl (by repeat first | exact .head _ | apply List.Mem.tail) rfl) rfl ?_
  refine o_want rfl ?_
  refine o_call (c_stD j) X.b81  rfl (.cons (by repeat first | exact .head | apply Rem.tail) .nil) rfl ?_
  rintro _ _ ⟨n, hn, rfl, rfl⟩
  refine o_want rfl ?_
  refine o_val (v_T (v_neq rfl rfl) hn) rfl ?_
  refine o_val (v_pickF rfl rfl) rfl ?_
  refine o_val (v_assign rfl) rfl ?_
  refine o_nil ?_
  refine thn_n ?_
  refine w_ret ?_
  exact ret_ok (G := [_]) (res1 rfl) ⟨rfl, rfl⟩ (sub (.cons (by repeat first | exact .head | apply Rem.tail) .nil) (by repeat first | exact .refl | apply Drop.skip))
theorem s_over (x : It) : Ctr Tryz.prog 87 [.agg (enc x).toArray] [JB x] (Ret fun v G => v = .bool (ov x) ∧ G = [JB x]) := by
  obtain ⟨h, c, d, j, late, can, dn⟩ := x
  have fr : ∀ {t : Bool}, Ctr Tryz.prog 87 [.agg (enc ⟨h, c, d, j, late, can, dn⟩).toArray] [] (Ret fun v G => v = .bool t ∧ G = []) → Ctr Tryz.prog 87 [.agg (enc ⟨h, c, d, j, late, can, dn⟩).toArray] [JB ⟨h, c, d, j, late, can, dn⟩] (Ret fun v G => v = .bool t ∧ G = [JB ⟨h, c, d, j, late, can, dn⟩]) := fun k => by
    refine (Ctr.frame k [JB ⟨h, c, d, j, late, can, dn⟩]).mono ?_
    rintro e G ⟨v, rfl, G', ⟨rfl, rfl⟩, rfl⟩
    exact ⟨_, rfl, rfl, rfl⟩
  cases late with
  | true => exact fr (s_over1 h c d j can dn)
  | false =>
    cases can with
    | true => exact fr (s_over2 h c d j true dn)
    | false =>
      cases dn with
      | false => exact s_over3 h c d j false false
      | true => exact s_over4 h c d j false false
theorem s_overL (l : List It) (k : Nat) (hk : k < l.length) (t : Bool) (ht : ov (IT.g l (k : Int)) = t) : Ctr Tryz.prog 87 [.agg (enc (IT.g l (k : Int))).toArray] [JL l] (Ret fun v G => v = .bool t ∧ G = [JL l]) := by
  have h := s_over (IT.g l (k : Int))
  rw [ht] at h
  rw [IT.g_nat hk] at h ⊢
  exact Ctr.inJL hk h
theorem s_first_yes (b : Nat) (l : List It) (last : Int) (hl : l.length ≤ 1000) (i : Nat) (hi : i < l.length) (hov : ov l[i] = false) (hno : ∀ j (hj : j < i), ov (l[j]'(by omega)) = true) : Ctr Tryz.prog 43 [.pointer (some ⟨b, 0, none⟩)] [IsStore b l last, JL l] (Ret fun v G => v = .tuple #[.agg (enc l[i]).toArray, .bool true] ∧ G = [IsStore b l last, JL l]) := by
  refine spec_of [(0, _)] Tryz.func43 rfl Tryz.ntmps43 rfl rfl ?_
  intro w0 F
  refine w_opn (fun h hh => hh) ?_
  rintro ⟨p, cap⟩ _
  dsimp only
  refine w_seq ?_
  refine w_region ?_
  refine o_alloc X.z68 rfl ?_
  intro b2
  refine o_val (v_assign rfl) rfl ?_
  refine o_nil ?_
  refine thn_n ?_
  refine w_seq ?_
  refine w_seq ?_
  refine w_region ?_
  refine o_val (v_move rfl) rfl ?_
  refine o_val (v_to (v := .bool false) (v_eqnil Tryz.underlying62 rfl rfl) rfl) rfl ?_
  refine o_nil ?_
  refine thn_n ?_
  refine w_condF rfl ?_
  refine w_skip ?_
  refine thn_n ?_
  refine w_seq ?_
  refine w_seq ?_
  refine w_region ?_
  refine o_val (v_move rfl) rfl ?_
  refine o_val (v_nil rfl) rfl ?_
  refine o_val (v_fieldAddr X.f130_0 rfl) rfl ?_
  refine o_val (v_load X.s71 rfl (by repeat first | exact .head _ | apply List.Mem.tail) rfl) rfl ?_
  refine o_val (v_len (ty' := 0) Tryz.underlying71 rfl) rfl ?_
  refine o_val (v_move rfl) rfl ?_
  refine o_nil ?_
  refine thn_n ?_
  refine w_block ?_
  refine w_loop1 (fun (k : Nat) => [(2, .pointer (some ⟨b2, 0, none⟩)), (12, .slice p l.length cap), (13, .int .i64 (l.length : Int)), (14, .int .i64 (k : Int))]) (fun (k : Nat) => Cel b 130 [.slice p l.length cap, .int .i64 last] :: Row IT p l.length cap l :: JL l :: Cel b2 68 [.int .i64 0, .int .i64 0, .int .i64 0, .pointer none, .bool false, .bool false] :: F) (fun (k : Nat) => k ≤ i) (fun (k : Nat) => l.length - k) (i1 (0) ?_ (.cons rfl (.cons rfl (.cons rfl (.cons rfl (.nil _))))) (sub (.cons (by repeat first | exact .head | apply Rem.tail) (.cons (by repeat first | exact .head | apply Rem.tail) (.cons (by repeat first | exact .head | apply Rem.tail) (.cons (by repeat first | exact .head | apply Rem.tail) .nil)))) (by repeat first | exact .refl | apply Drop.skip))) ?_
  ·
    exact Nat.zero_le _
  intro k
  rintro hk
  refine w_seq ?_
  refine w_region ?_
  refine o_val (v_lss rfl rfl) rfl ?_
  refine o_nil ?_
  refine thn_n ?_
  refine w_seq ?_
  first | refine w_condD rfl (fun h15 => ?_) (fun h15 => ?_) | refine w_cond rfl (fun h15 => ?_) (fun h15 => ?_)
  ·
    refine w_skip ?_
    refine thn_n ?_
    refine w_seq ?_
    refine w_block ?_
    refine w_seq ?_
    have hk2 : k < l.length := by omega
    refine w_region ?_
    refine o_val (r_index (c := (IT)) X.sl71 rfl rfl (own (by repeat first | exact .head _ | apply List.Mem.tail)) (by omega) (by omega)) rfl ?_
    refine o_val (r_loadA (c := (IT)) X.a68 rfl (own (by repeat first | exact .head _ | apply List.Mem.tail)) (by omega) (by omega) rfl) rfl ?_
    refine o_alloc X.z68 rfl ?_
    intro b5
    refine o_eff (v_storeAgg X.a68 rfl rfl (us := [_, _, _, _, _, _]) rfl rfl (by repeat first | exact .head | apply Rep.tail) (by exact Nat.le_of_ble_eq_true rfl) rfl) ?_
    refine o_nil ?_
    refine thn_n ?_
    rcases ((by omega : k < i ∨ k = i)) with hlt | rfl
    ·
      refine w_seq ?_
      refine w_region ?_
      refine o_val (v_loadAgg X.a68 rfl (by repeat first | exact .head _ | apply List.Mem.tail) (vs := [_, _, _, _, _, _]) rfl rfl) rfl ?_
      refine o_call (s_overL l k hk2 true ((congrArg ov (IT.g_nat hk2)).trans (hno k hlt))) X.b87  rfl (.cons (by repeat first | exact .head | apply Rem.tail) .nil) rfl ?_
      rintro _ _ ⟨rfl, rfl⟩
      refine o_val (v_to (v := .bool false) (v_not rfl) rfl) rfl ?_
      refine o_nil ?_
      refine thn_n ?_
      refine w_condF rfl ?_
      refine w_skip ?_
      refine blk_n ?_
      refine thn_n ?_
      refine w_region ?_
      refine o_val (v_add rfl rfl (wrapI (by omega) (by omega))) rfl ?_
      refine o_val (v_move rfl) rfl ?_
      refine o_nil ?_
      refine j1 (k + 1) ?_ (.cons rfl (.cons rfl (.cons rfl (.cons rfl (.nil _))))) (sub (.cons (by repeat first | exact .head | apply Rem.tail) (.cons (by repeat first | exact .head | apply Rem.tail) (.cons (by repeat first | exact .head | apply Rem.tail) (.cons (by repeat first | exact .head | apply Rem.tail) .nil)))) (by repeat first | exact .refl | apply Drop.skip))
      exact ⟨by omega, by omega⟩
    ·
      refine w_seq ?_
      refine w_region ?_
      refine o_val (v_loadAgg X.a68 rfl (by repeat first | exact .head _ | apply List.Mem.tail) (vs := [_, _, _, _, _, _]) rfl rfl) rfl ?_
      refine o_call (s_overL l k hk2 false ((congrArg ov (IT.g_nat hk2)).trans hov)) X.b87  rfl (.cons (by repeat first | exact .head | apply Rem.tail) .nil) rfl ?_
      rintro _ _ ⟨rfl, rfl⟩
      refine o_val (v_to (v := .bool true) (v_not rfl) rfl) rfl ?_
      refine o_nil ?_
      refine thn_n ?_
      refine w_condT rfl ?_
      refine w_seq ?_
      refine w_region ?_
      refine o_val (v_loadAgg X.a68 rfl (by repeat first | exact .head _ | apply List.Mem.tail) (vs := [_, _, _, _, _, _]) rfl rfl) rfl ?_
      refine o_eff (v_storeAgg X.a68 rfl rfl (us := [_, _, _, _, _, _]) rfl rfl (by repeat first | exact .head | apply Rep.tail) (by exact Nat.le_of_ble_eq_true rfl) rfl) ?_
      refine o_val (v_assign rfl) rfl ?_
      refine o_nil ?_
      refine thn_n ?_
      refine w_ret ?_
      refine (blk_r (thn_r (thn_r (blk_r (thn_r ?_)))))
      rw [← IT.g_nat hi]
      exact ret_ok (G := [IsStore b l last, JL l]) (resC2 X.a68 rfl (by repeat first | exact .head _ | apply List.Mem.tail) rfl rfl) ⟨rfl, rfl⟩ ((fold' (.cons (by repeat first | exact .head | apply Rem.tail) (.cons (by repeat first | exact .head | apply Rem.tail) .nil)) dd0 (fun w0 h hh => st_close rfl hh)).trans (sub (.cons (by repeat first | exact .head | apply Rem.tail) (.cons (by repeat first | exact .head | apply Rem.tail) .nil)) (by repeat first | exact .refl | apply Drop.skip)))
  ·
    refine w_exit ?_
    refine thn_e ?_
    refine thn_e ?_
    refine blk_x ?_
    refine thn_n ?_
    refine w_seq ?_
    refine w_region ?_
    refine o_val (v_build X.pl68 X.z68 rfl (cs := [_, _, _, _, _, _]) rfl) rfl ?_
    refine o_eff (v_storeAgg X.a68 rfl rfl (us := [_, _, _, _, _, _]) rfl rfl (by repeat first | exact .head | apply Rep.tail) (by exact Nat.le_of_ble_eq_true rfl) rfl) ?_
    refine o_val (v_assign rfl) rfl ?_
    refine o_nil ?_
    refine thn_n ?_
    refine w_ret ?_
    exfalso; omega
theorem s_first_no (b : Nat) (l : List It) (last : Int) (hl : l.length ≤ 1000) (hno : ∀ j (hj : j < l.length), ov l[j] = true) : Ctr Tryz.prog 43 [.pointer (some ⟨b, 0, none⟩)] [IsStore b l last, JL l] (Ret fun v G => v = .tuple #[.agg (enc It.nil).toArray, .bool false] ∧ G = [IsStore b l last, JL l]) := by
  refine spec_of [(0, _)] Tryz.func43 rfl Tryz.ntmps43 rfl rfl ?_
  intro w0 F
  refine w_opn (fun h hh => hh) ?_
  rintro ⟨p, cap⟩ _
  dsimp only
  refine w_seq ?_
  refine w_region ?_
  refine o_alloc X.z68 rfl ?_
  intro b2
  refine o_val (v_assign rfl) rfl ?_
  refine o_nil ?_
  refine thn_n ?_
  refine w_seq ?_
  refine w_seq ?_
  refine w_region ?_
  refine o_val (v_move rfl) rfl ?_
  refine o_val (v_to (v := .bool false) (v_eqnil Tryz.underlying62 rfl rfl) rfl) rfl ?_
  refine o_nil ?_
  refine thn_n ?_
  refine w_condF rfl ?_
  refine w_skip ?_
  refine thn_n ?_
  refine w_seq ?_
  refine w_seq ?_
  refine w_region ?_
  refine o_val (v_move rfl) rfl ?_
  refine o_val (v_nil rfl) rfl ?_
  refine o_val (v_fieldAddr X.f130_0 rfl) rfl ?_
  refine o_val (v_load X.s71 rfl (by repeat first | exact .head _ | apply List.Mem.tail) rfl) rfl ?_
  refine o_val (v_len (ty' := 0) Tryz.underlying71 rfl) rfl ?_
  refine o_val (v_move rfl) rfl ?_
  refine o_nil ?_
  refine thn_n ?_
  refine w_block ?_
  refine w_loop1 (fun (k : Nat) => [(2, .pointer (some ⟨b2, 0, none⟩)), (12, .slice p l.length cap), (13, .int .i64 (l.length : Int)), (14, .int .i64 (k : Int))]) (fun (k : Nat) => Cel b 130 [.slice p l.length cap, .int .i64 last] :: Row IT p l.length cap l :: JL l :: Cel b2 68 [.int .i64 0, .int .i64 0, .int .i64 0, .pointer none, .bool false, .bool false] :: F) (fun (k : Nat) => k ≤ l.length) (fun (k : Nat) => l.length - k) (i1 (0) ?_ (.cons rfl (.cons rfl (.cons rfl (.cons rfl (.nil _))))) (sub (.cons (by repeat first | exact .head | apply Rem.tail) (.cons (by repeat first | exact .head | apply Rem.tail) (.cons (by repeat first | exact .head | apply Rem.tail) (.cons (by repeat first | exact .head | apply Rem.tail) .nil)))) (by repeat first | exact .refl | apply Drop.skip))) ?_
  ·
    exact Nat.zero_le _
  intro k
  rintro hk
  refine w_seq ?_
  refine w_region ?_
  refine o_val (v_lss rfl rfl) rfl ?_
  refine o_nil ?_
  refine thn_n ?_
  refine w_seq ?_
  first | refine w_condD rfl (fun h15 => ?_) (fun h15 => ?_) | refine w_cond rfl (fun h15 => ?_) (fun h15 => ?_)
  ·
    refine w_skip ?_
    refine thn_n ?_
    refine w_seq ?_
    refine w_block ?_
    refine w_seq ?_
    have hk2 : k < l.length := by omega
    refine w_region ?_
    refine o_val (r_index (c := (IT)) X.sl71 rfl rfl (own (by repeat first | exact .head _ | apply List.Mem.tail)) (by omega) (by omega)) rfl ?_
    refine o_val (r_loadA (c := (IT)) X.a68 rfl (own (by repeat first | exact .head _ | apply List.Mem.tail)) (by omega) (by omega) rfl) rfl ?_
    refine o_alloc X.z68 rfl ?_
    intro b5
    refine o_eff (v_storeAgg X.a68 rfl rfl (us := [_, _, _, _, _, _]) rfl rfl (by repeat first | exact .head | apply Rep.tail) (by exact Nat.le_of_ble_eq_true rfl) rfl) ?_
    refine o_nil ?_
    refine thn_n ?_
    refine w_seq ?_
    refine w_region ?_
    refine o_val (v_loadAgg X.a68 rfl (by repeat first | exact .head _ | apply List.Mem.tail) (vs := [_, _, _, _, _, _]) rfl rfl) rfl ?_
    refine o_call (s_overL l k hk2 true ((congrArg ov (IT.g_nat hk2)).trans (hno k hk2))) X.b87  rfl (.cons (by repeat first | exact .head | apply Rem.tail) .nil) rfl ?_
    rintro _ _ ⟨rfl, rfl⟩
    refine o_val (v_to (v := .bool false) (v_not rfl) rfl) rfl ?_
    refine o_nil ?_
    refine thn_n ?_
    refine w_condF rfl ?_
    refine w_skip ?_
    refine blk_n ?_
    refine thn_n ?_
    refine w_region ?_
    refine o_val (v_add rfl rfl (wrapI (by omega) (by omega))) rfl ?_
    refine o_val (v_move rfl) rfl ?_
    refine o_nil ?_
    refine j1 (k + 1) ?_ (.cons rfl (.cons rfl (.cons rfl (.cons rfl (.nil _))))) (sub (.cons (by repeat first | exact .head | apply Rem.tail) (.cons (by repeat first | exact .head | apply Rem.tail) (.cons (by repeat first | exact .head | apply Rem.tail) (.cons (by repeat first | exact .head | apply Rem.tail) .nil)))) (by repeat first | exact .refl | apply Drop.skip))
    exact ⟨by omega, by omega⟩
  ·
    refine w_exit ?_
    refine thn_e ?_
    refine thn_e ?_
    refine blk_x ?_
    refine thn_n ?_
    refine w_seq ?_
    refine w_region ?_
    refine o_val (v_build X.pl68 X.z68 rfl (cs := [_, _, _, _, _, _]) rfl) rfl ?_
    refine o_eff (v_storeAgg X.a68 rfl rfl (us := [_, _, _, _, _, _]) rfl rfl (by repeat first | exact .head | apply Rep.tail) (by exact Nat.le_of_ble_eq_true rfl) rfl) ?_
    refine o_val (v_assign rfl) rfl ?_
    refine o_nil ?_
    refine thn_n ?_
    refine w_ret ?_
    exact ret_ok (G := [IsStore b l last, JL l]) (resC2 X.a68 rfl (by repeat first | exact .head _ | apply List.Mem.tail) rfl rfl) ⟨rfl, rfl⟩ ((fold' (.cons (by repeat first | exact .head | apply Rem.tail) (.cons (by repeat first | exact .head | apply Rem.tail) .nil)) dd0 (fun w0 h hh => st_close rfl hh)).trans (sub (.cons (by repeat first | exact .head | apply Rem.tail) (.cons (by repeat first | exact .head | apply Rem.tail) .nil)) (by repeat first | exact .refl | apply Drop.skip)))
end Go.Proofs.YtookicfejdbddaaGreat

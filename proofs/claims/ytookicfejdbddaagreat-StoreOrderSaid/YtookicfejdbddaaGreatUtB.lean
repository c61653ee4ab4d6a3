/- Walks of functions that the law reaches, and what they lean on; no conditions. -/
import Derived.Test.YtookicfejdbddaaGreatUtA
set_option linter.unusedVariables false
set_option linter.unusedSimpArgs false
set_option linter.unnecessarySimpa false
set_option maxRecDepth 100000
namespace Go.Proofs.YtookicfejdbddaaGreat
open Go.Sl Go.StoreP
theorem s_place_some (b : Nat) (m : Int) (l : List It) (last : Int) (hl : l.length ≤ 1000) (i : Nat) (hi : i < l.length) (hm : idx l (isH m) = i) : Ctr Tryz.prog 85 [.pointer (some ⟨b, 0, none⟩), .int .i64 m] [IsStore b l last] (Ret fun v G => v = .int .i64 (i : Int) ∧ G = [IsStore b l last]) := by
  have h := s_place b m l last hl
  rw [hm] at h
  exact h
theorem s_place_none (b : Nat) (m : Int) (l : List It) (last : Int) (hl : l.length ≤ 1000) (hm : idx l (isH m) = -1) : Ctr Tryz.prog 85 [.pointer (some ⟨b, 0, none⟩), .int .i64 m] [IsStore b l last] (Ret fun v G => v = .int .i64 (-1) ∧ G = [IsStore b l last]) := by
  have h := s_place b m l last hl
  rw [hm] at h
  exact h
theorem s_new  : Ctr Tryz.prog 35 [] [] (Ret fun v G => ∃ b, v = .pointer (some ⟨b, 0, none⟩) ∧ G = [IsStore b [] 0]) := by
  refine spec_of [] Tryz.func35 rfl Tryz.ntmps35 rfl rfl ?_
  intro w0 F
  refine w_seq ?_
  refine w_region ?_
  refine o_val (v_assign rfl) rfl ?_
  refine o_nil ?_
  refine thn_n ?_
  refine w_seq ?_
  refine w_add0 (Row IT none 0 0 []) (Row.nil _ _ _) ?_
  refine w_region ?_
  refine o_val (v_build X.pl130 X.z130 rfl (cs := [_, _]) rfl) rfl ?_
  refine o_box rfl (cs := [_, _]) rfl rfl ?_
  intro b2
  refine o_val (v_assign rfl) rfl ?_
  refine o_nil ?_
  refine thn_n ?_
  refine w_ret ?_
  exact ret_ok (G := [IsStore b2 [] 0]) (res1 rfl) ⟨b2, rfl, rfl⟩ (fold' (.cons (by repeat first | exact .head | apply Rem.tail) (.cons (by repeat first | exact .head | apply Rem.tail) .nil)) (by repeat first | exact .refl | apply Drop.skip) (fun w0 h hh => st_close (rfl) hh))
theorem s_get (b : Nat) (m : Int) (l : List It) (last : Int) (hl : l.length ≤ 1000) (i : Nat) (hi : i < l.length) (hm : idx l (isH m) = i) : Ctr Tryz.prog 40 [.pointer (some ⟨b, 0, none⟩), .int .i64 m] [IsStore b l last] (Ret fun v G => v = .tuple #[.agg (enc l[i]).toArray, .bool true] ∧ G = [IsStore b l last]) := by
  refine spec_of [(0, _), (1, _)] Tryz.func40 rfl Tryz.ntmps40 rfl rfl ?_
  intro w0 F
  refine w_seq ?_
  refine w_region ?_
  refine o_alloc X.z68 rfl ?_
  intro b4
  refine o_val (v_assign rfl) rfl ?_
  refine o_nil ?_
  refine thn_n ?_
  refine w_seq ?_
  refine w_region ?_
  refine o_val (v_move rfl) rfl ?_
  refine o_val (v_move rfl) rfl ?_
  refine o_call (s_place_some b m l last hl i hi hm) X.b85  rfl (.cons (by repeat first | exact .head | apply Rem.tail) .nil) rfl ?_
  rintro _ _ ⟨rfl, rfl⟩
  refine o_val (v_assign rfl) rfl ?_
  refine o_nil ?_
  refine thn_n ?_
  refine w_seq ?_
  refine w_seq ?_
  refine w_region ?_
  refine o_val (v_move rfl) rfl ?_
  refine o_val (v_lss rfl rfl) rfl ?_
  refine o_nil ?_
  refine thn_n ?_
  first | refine w_condD rfl (fun h11 => ?_) (fun h11 => ?_) | refine w_cond rfl (fun h11 => ?_) (fun h11 => ?_)
  ·
    exact absurd h11 (by omega)
  ·
    refine w_skip ?_
    refine thn_n ?_
    refine w_seq ?_
    refine w_opn (fun h hh => hh) ?_
    rintro ⟨p, cap⟩ _
    dsimp only
    have hgi := IT.g_nat hi
    refine w_region ?_
    refine o_val (v_move rfl) rfl ?_
    refine o_val (v_nil rfl) rfl ?_
    refine o_val (v_fieldAddr X.f130_0 rfl) rfl ?_
    refine o_val (v_load X.s71 rfl (by repeat first | exact .head _ | apply List.Mem.tail) rfl) rfl ?_
    refine o_val (v_move rfl) rfl ?_
    refine o_val (r_index (c := (IT)) X.sl71 rfl rfl (own (by repeat first | exact .head _ | apply List.Mem.tail)) (by omega) (by omega)) rfl ?_
    refine o_val (r_loadA (c := (IT)) X.a68 rfl (own (by repeat first | exact .head _ | apply List.Mem.tail)) (by omega) (by omega) rfl) rfl ?_
    refine o_eff (v_storeAgg X.a68 rfl rfl (us := [_, _, _, _, _, _]) rfl rfl (by repeat first | exact .head | apply Rep.tail) (by exact Nat.le_of_ble_eq_true rfl) rfl) ?_
    refine o_val (v_assign rfl) rfl ?_
    refine o_nil ?_
    refine thn_n ?_
    refine w_ret ?_
    rw [hgi]
    exact ret_ok (G := [IsStore b l last]) (resC2 X.a68 rfl (by repeat first | exact .head _ | apply List.Mem.tail) rfl rfl) ⟨rfl, rfl⟩ (fold' (.cons (by repeat first | exact .head | apply Rem.tail) (.cons (by repeat first | exact .head | apply Rem.tail) .nil)) (by repeat first | exact .refl | apply Drop.skip) (fun w0 h hh => st_close (rfl) hh))
theorem s_get_no (b : Nat) (m : Int) (l : List It) (last : Int) (hl : l.length ≤ 1000) (hm : idx l (isH m) = -1) : Ctr Tryz.prog 40 [.pointer (some ⟨b, 0, none⟩), .int .i64 m] [IsStore b l last] (Ret fun v G => v = .tuple #[.agg (enc It.nil).toArray, .bool false] ∧ G = [IsStore b l last]) := by
  refine spec_of [(0, _), (1, _)] Tryz.func40 rfl Tryz.ntmps40 rfl rfl ?_
  intro w0 F
  refine w_seq ?_
  refine w_region ?_
  refine o_alloc X.z68 rfl ?_
  intro b4
  refine o_val (v_assign rfl) rfl ?_
  refine o_nil ?_
  refine thn_n ?_
  refine w_seq ?_
  refine w_region ?_
  refine o_val (v_move rfl) rfl ?_
  refine o_val (v_move rfl) rfl ?_
  refine o_call (s_place_none b m l last hl hm) X.b85  rfl (.cons (by repeat first | exact .head | apply Rem.tail) .nil) rfl ?_
  rintro _ _ ⟨rfl, rfl⟩
  refine o_val (v_assign rfl) rfl ?_
  refine o_nil ?_
  refine thn_n ?_
  refine w_seq ?_
  refine w_seq ?_
  refine w_region ?_
  refine o_val (v_move rfl) rfl ?_
  refine o_val (v_lss rfl rfl) rfl ?_
  refine o_nil ?_
  refine thn_n ?_
  first | refine w_condD rfl (fun h11 => ?_) (fun h11 => ?_) | refine w_cond rfl (fun h11 => ?_) (fun h11 => ?_)
  ·
    refine w_seq ?_
    refine w_region ?_
    refine o_val (v_build X.pl68 X.z68 rfl (cs := [_, _, _, _, _, _]) rfl) rfl ?_
    refine o_eff (v_storeAgg X.a68 rfl rfl (us := [_, _, _, _, _, _]) rfl rfl (by repeat first | exact .head | apply Rep.tail) (by exact Nat.le_of_ble_eq_true rfl) rfl) ?_
    refine o_val (v_assign rfl) rfl ?_
    refine o_nil ?_
    refine thn_n ?_
    refine w_ret ?_
    refine (thn_r ?_)
    exact ret_ok (G := [IsStore b l last]) (resC2 X.a68 rfl (by repeat first | exact .head _ | apply List.Mem.tail) rfl rfl) ⟨rfl, rfl⟩ (sub (.cons (by repeat first | exact .head | apply Rem.tail) .nil) (by repeat first | exact .refl | apply Drop.skip))
  ·
    exact absurd h11 (by omega)
theorem s_drop (b : Nat) (m : Int) (l : List It) (last : Int) (hl : l.length ≤ 1000) (i : Nat) (hi : i < l.length) (hm : idx l (isH m) = i) : Ctr Tryz.prog 38 [.pointer (some ⟨b, 0, none⟩), .int .i64 m] [IsStore b l last] (Ret fun v G => v = .tuple #[.agg (enc l[i]).toArray, .bool true] ∧ G = [IsStore b (l.eraseIdx i) last]) := by
  refine spec_of [(0, _), (1, _)] Tryz.func38 rfl Tryz.ntmps38 rfl rfl ?_
  intro w0 F
  refine w_seq ?_
  refine w_region ?_
  refine o_alloc X.z68 rfl ?_
  intro b4
  refine o_val (v_assign rfl) rfl ?_
  refine o_nil ?_
  refine thn_n ?_
  refine w_seq ?_
  refine w_region ?_
  refine o_val (v_move rfl) rfl ?_
  refine o_val (v_move rfl) rfl ?_
  refine o_call (s_get b m l last hl i hi hm) X.b40  rfl (.cons (by repeat first | exact .head | apply Rem.tail) .nil) rfl ?_
  rintro _ _ ⟨rfl, rfl⟩
  refine o_val (v_move rfl) rfl ?_
  refine o_val (v_extract rfl rfl) rfl ?_
  refine o_val (v_extract rfl rfl) rfl ?_
  refine o_alloc X.z68 rfl ?_
  intro b6
  refine o_eff (v_storeAgg X.a68 rfl rfl (us := [_, _, _, _, _, _]) rfl rfl (by repeat first | exact .head | apply Rep.tail) (by exact Nat.le_of_ble_eq_true rfl) rfl) ?_
  refine o_val (v_assign rfl) rfl ?_
  refine o_nil ?_
  refine thn_n ?_
  refine w_seq ?_
  refine w_seq ?_
  refine w_region ?_
  refine o_val (v_move rfl) rfl ?_
  refine o_nil ?_
  refine thn_n ?_
  refine w_condT rfl ?_
  refine w_seq ?_
  refine w_region ?_
  refine o_val (v_move rfl) rfl ?_
  refine o_val (v_move rfl) rfl ?_
  refine o_call (s_place_some b m l last hl i hi hm) X.b85  rfl (.cons (by repeat first | exact .head | apply Rem.tail) .nil) rfl ?_
  rintro _ _ ⟨rfl, rfl⟩
  refine o_val (v_assign rfl) rfl ?_
  refine o_nil ?_
  refine thn_n ?_
  refine w_opn (fun h hh => hh) ?_
  rintro ⟨p, cap⟩ _
  dsimp only
  refine w_region ?_
  refine o_val (v_move rfl) rfl ?_
  refine o_val (v_move rfl) rfl ?_
  refine o_val (v_nil rfl) rfl ?_
  refine o_val (v_fieldAddr X.f130_0 rfl) rfl ?_
  refine o_val (v_load X.s71 rfl (by repeat first | exact .head _ | apply List.Mem.tail) rfl) rfl ?_
  refine o_val (v_move rfl) rfl ?_
  refine o_val (v_move rfl) rfl ?_
  refine o_val (v_add rfl rfl (wrapI (by omega) (by omega))) rfl ?_
  refine o_call (s_delete l p cap i hi hl) X.b86  rfl (.cons (by repeat first | exact .head | apply Rem.tail) .nil) rfl ?_
  rintro _ _ ⟨rfl, rfl⟩
  refine o_val (v_nil rfl) rfl ?_
  refine o_val (v_fieldAddr X.f130_0 rfl) rfl ?_
  refine o_eff (v_store X.s71 rfl rfl rfl (by repeat first | exact .head | apply Rep.tail) (by exact Nat.le_of_ble_eq_true rfl) rfl) ?_
  refine o_nil ?_
  refine thn_n ?_
  refine w_seq ?_
  refine w_sub (fold' (.cons (by repeat first | exact .head | apply Rem.tail) (.cons (by repeat first | exact .head | apply Rem.tail) .nil)) dd0 (fun w0 h hh => st_close (l := l.eraseIdx i) (by rw [List.length_eraseIdx, if_pos hi]) hh)) ?_
  refine w_region ?_
  refine o_val (v_loadAgg X.a68 rfl (by repeat first | exact .head _ | apply List.Mem.tail) (vs := [_, _, _, _, _, _]) rfl rfl) rfl ?_
  refine o_val (v_move rfl) rfl ?_
  refine o_eff (v_storeAgg X.a68 rfl rfl (us := [_, _, _, _, _, _]) rfl rfl (by repeat first | exact .head | apply Rep.tail) (by exact Nat.le_of_ble_eq_true rfl) rfl) ?_
  refine o_val (v_assign rfl) rfl ?_
  refine o_nil ?_
  refine thn_n ?_
  refine w_ret ?_
  exact ret_ok (G := [IsStore b (l.eraseIdx i) last]) (resC2 X.a68 rfl (by repeat first | exact .head _ | apply List.Mem.tail) rfl rfl) ⟨rfl, rfl⟩ (sub (.cons (by repeat first | exact .head | apply Rem.tail) .nil) (by repeat first | exact .refl | apply Drop.skip))
end Go.Proofs.YtookicfejdbddaaGreat

/-
  Steps of the proof: walks of functions that the statement reaches; printed by a program of ours.
-/
import Derived.Test.YtgpfhkbolhpoiaaStoreA
namespace Go.Proofs.Ytgpfhkbolhpoiaa
open Go.Sl Go.StoreP
set_option linter.unusedVariables false
set_option linter.unusedSimpArgs false


theorem s_place_some (b : Nat) (m : Int) (l : List It) (last : Int) (hl : l.length ≤ 1000) (i : Nat) (hi : i < l.length) (hm : idx l (isH m) = i) : Ctr Try.prog 19 [.pointer (some ⟨b, 0, none⟩), .int .i64 m] [IsStore b l last] (Ret fun v G => v = .int .i64 (i : Int) ∧ G = [IsStore b l last]) := by
  have h := s_place b m l last hl
  rw [hm] at h
  exact h
theorem s_place_none (b : Nat) (m : Int) (l : List It) (last : Int) (hl : l.length ≤ 1000) (hm : idx l (isH m) = -1) : Ctr Try.prog 19 [.pointer (some ⟨b, 0, none⟩), .int .i64 m] [IsStore b l last] (Ret fun v G => v = .int .i64 (-1) ∧ G = [IsStore b l last]) := by
  have h := s_place b m l last hl
  rw [hm] at h
  exact h


set_option maxRecDepth 100000 in
theorem s_new  : Ctr Try.prog 5 [] [] (Ret fun v G => ∃ b, v = .pointer (some ⟨b, 0, none⟩) ∧ G = [IsStore b [] 0]) := by
  refine spec_of [] Try.func5 rfl Try.ntmps5 rfl rfl ?_
  intro w0 F
  refine w_seq ?_
  refine w_region ?_
  refine o_val (v_assign rfl) rfl ?_
  refine o_nil ?_
  refine thn_n ?_
  refine w_seq ?_
  refine w_add0 (Row IT none 0 0 []) (Row.nil _ _ _) ?_
  refine w_region ?_
  refine o_val (v_build V.pl42 V.z42 rfl (cs := [_, _]) rfl) rfl ?_
  refine o_box rfl (cs := [_, _]) rfl rfl ?_
  intro b2
  refine o_val (v_assign rfl) rfl ?_
  refine o_nil ?_
  refine thn_n ?_
  refine w_ret ?_
  exact ret_ok (G := [IsStore b2 [] 0]) (res1 rfl) ⟨b2, rfl, rfl⟩ (fold' (.cons (by first | exact rr0 | exact rr1 | exact rr2 | exact rr3 | exact rr4 | exact rr5 | exact rr6 | exact rr7 | exact rr8 | exact rr9 | exact rr10 | exact rr11 | exact rr12 | exact rr13 | exact rr14) (.cons (by first | exact rr0 | exact rr1 | exact rr2 | exact rr3 | exact rr4 | exact rr5 | exact rr6 | exact rr7 | exact rr8 | exact rr9 | exact rr10 | exact rr11 | exact rr12 | exact rr13 | exact rr14) .nil)) (by first | exact dd0 | exact dd1 | exact dd2 | exact dd3 | exact dd4 | exact dd5 | exact dd6 | exact dd7 | exact dd8 | exact dd9 | exact dd10 | exact dd11 | exact dd12 | exact dd13 | exact dd14) (fun w0 h hh => st_close (rfl) hh))

set_option maxRecDepth 100000 in
theorem s_get (b : Nat) (m : Int) (l : List It) (last : Int) (hl : l.length ≤ 1000) (i : Nat) (hi : i < l.length) (hm : idx l (isH m) = i) : Ctr Try.prog 11 [.pointer (some ⟨b, 0, none⟩), .int .i64 m] [IsStore b l last] (Ret fun v G => v = .tuple #[.agg (enc l[i]).toArray, .bool true] ∧ G = [IsStore b l last]) := by
  refine spec_of [(0, _), (1, _)] Try.func11 rfl Try.ntmps11 rfl rfl ?_
  intro w0 F
  refine w_seq ?_
  refine w_region ?_
  refine o_alloc V.z34 rfl ?_
  intro b4
  refine o_val (v_assign rfl) rfl ?_
  refine o_nil ?_
  refine thn_n ?_
  refine w_seq ?_
  refine w_region ?_
  refine o_val (v_move rfl) rfl ?_
  refine o_val (v_move rfl) rfl ?_
  refine o_call (s_place_some b m l last hl i hi hm) V.b19  rfl (.cons (by first | exact rr0 | exact rr1 | exact rr2 | exact rr3 | exact rr4 | exact rr5 | exact rr6 | exact rr7 | exact rr8 | exact rr9 | exact rr10 | exact rr11 | exact rr12 | exact rr13 | exact rr14) .nil) rfl ?_
  rintro _ _ ⟨rfl, rfl⟩
  refine o_val (v_assign rfl) rfl ?_
  refine o_nil ?_
  refine thn_n ?_
  refine w_seq ?_
  refine w_seq ?_
  refine w_region ?_
  refine o_val (v_move rfl) rfl ?_
  refine o_val (v_lss rfl rfl) rfl ?_
  refine o_nil ?_
  refine thn_n ?_
  first | refine w_condD rfl (fun h11 => ?_) (fun h11 => ?_) | refine w_cond rfl (fun h11 => ?_) (fun h11 => ?_)
  ·
    exact absurd h11 (by omega)
  ·
    refine w_skip ?_
    refine thn_n ?_
    refine w_seq ?_
    refine w_opn (fun h hh => hh) ?_
    rintro ⟨p, cap⟩ _
    dsimp only
    have hgi := IT.g_nat hi
    refine w_region ?_
    refine o_val (v_move rfl) rfl ?_
    refine o_val (v_nil rfl) rfl ?_
    refine o_val (v_fieldAddr V.f42_0 rfl) rfl ?_
    refine o_val (v_load V.s40 rfl (by first | exact mm0 | exact mm1 | exact mm2 | exact mm3 | exact mm4 | exact mm5 | exact mm6 | exact mm7 | exact mm8 | exact mm9 | exact mm10 | exact mm11 | exact mm12 | exact mm13 | exact mm14) rfl) rfl ?_
    refine o_val (v_move rfl) rfl ?_
    refine o_val (r_index (c := (IT)) V.sl40 rfl rfl (by first | exact own mm0 | exact own mm1 | exact own mm2 | exact own mm3 | exact own mm4 | exact own mm5 | exact own mm6 | exact own mm7 | exact own mm8 | exact own mm9 | exact own mm10 | exact own mm11) (by omega) (by omega)) rfl ?_
    refine o_val (r_loadA (c := (IT)) V.a34 rfl (by first | exact own mm0 | exact own mm1 | exact own mm2 | exact own mm3 | exact own mm4 | exact own mm5 | exact own mm6 | exact own mm7 | exact own mm8 | exact own mm9 | exact own mm10 | exact own mm11) (by omega) (by omega) rfl) rfl ?_
    refine o_eff (v_storeAgg V.a34 rfl rfl (us := [_, _, _, _, _, _]) rfl rfl (by first | exact pp0 | exact pp1 | exact pp2 | exact pp3 | exact pp4 | exact pp5 | exact pp6 | exact pp7 | exact pp8 | exact pp9 | exact pp10 | exact pp11 | exact pp12 | exact pp13 | exact pp14) (by exact Nat.le_of_ble_eq_true rfl) rfl) ?_
    refine o_val (v_assign rfl) rfl ?_
    refine o_nil ?_
    refine thn_n ?_
    refine w_ret ?_
    rw [hgi]
    exact ret_ok (G := [IsStore b l last]) (resC2 V.a34 rfl (by first | exact mm0 | exact mm1 | exact mm2 | exact mm3 | exact mm4 | exact mm5 | exact mm6 | exact mm7 | exact mm8 | exact mm9 | exact mm10 | exact mm11 | exact mm12 | exact mm13 | exact mm14) rfl rfl) ⟨rfl, rfl⟩ (fold' (.cons (by first | exact rr0 | exact rr1 | exact rr2 | exact rr3 | exact rr4 | exact rr5 | exact rr6 | exact rr7 | exact rr8 | exact rr9 | exact rr10 | exact rr11 | exact rr12 | exact rr13 | exact rr14) (.cons (by first | exact rr0 | exact rr1 | exact rr2 | exact rr3 | exact rr4 | exact rr5 | exact rr6 | exact rr7 | exact rr8 | exact rr9 | exact rr10 | exact rr11 | exact rr12 | exact rr13 | exact rr14) .nil)) (by first | exact dd0 | exact dd1 | exact dd2 | exact dd3 | exact dd4 | exact dd5 | exact dd6 | exact dd7 | exact dd8 | exact dd9 | exact dd10 | exact dd11 | exact dd12 | exact dd13 | exact dd14) (fun w0 h hh => st_close (rfl) hh))

set_option maxRecDepth 100000 in
theorem s_get_no (b : Nat) (m : Int) (l : List It) (last : Int) (hl : l.length ≤ 1000) (hm : idx l (isH m) = -1) : Ctr Try.prog 11 [.pointer (some ⟨b, 0, none⟩), .int .i64 m] [IsStore b l last] (Ret fun v G => v = .tuple #[.agg (enc It.nil).toArray, .bool false] ∧ G = [IsStore b l last]) := by
  refine spec_of [(0, _), (1, _)] Try.func11 rfl Try.ntmps11 rfl rfl ?_
  intro w0 F
  refine w_seq ?_
  refine w_region ?_
  refine o_alloc V.z34 rfl ?_
  intro b4
  refine o_val (v_assign rfl) rfl ?_
  refine o_nil ?_
  refine thn_n ?_
  refine w_seq ?_
  refine w_region ?_
  refine o_val (v_move rfl) rfl ?_
  refine o_val (v_move rfl) rfl ?_
  refine o_call (s_place_none b m l last hl hm) V.b19  rfl (.cons (by first | exact rr0 | exact rr1 | exact rr2 | exact rr3 | exact rr4 | exact rr5 | exact rr6 | exact rr7 | exact rr8 | exact rr9 | exact rr10 | exact rr11 | exact rr12 | exact rr13 | exact rr14) .nil) rfl ?_
  rintro _ _ ⟨rfl, rfl⟩
  refine o_val (v_assign rfl) rfl ?_
  refine o_nil ?_
  refine thn_n ?_
  refine w_seq ?_
  refine w_seq ?_
  refine w_region ?_
  refine o_val (v_move rfl) rfl ?_
  refine o_val (v_lss rfl rfl) rfl ?_
  refine o_nil ?_
  refine thn_n ?_
  first | refine w_condD rfl (fun h11 => ?_) (fun h11 => ?_) | refine w_cond rfl (fun h11 => ?_) (fun h11 => ?_)
  ·
    refine w_seq ?_
    refine w_region ?_
    refine o_val (v_build V.pl34 V.z34 rfl (cs := [_, _, _, _, _, _]) rfl) rfl ?_
    refine o_eff (v_storeAgg V.a34 rfl rfl (us := [_, _, _, _, _, _]) rfl rfl (by first | exact pp0 | exact pp1 | exact pp2 | exact pp3 | exact pp4 | exact pp5 | exact pp6 | exact pp7 | exact pp8 | exact pp9 | exact pp10 | exact pp11 | exact pp12 | exact pp13 | exact pp14) (by exact Nat.le_of_ble_eq_true rfl) rfl) ?_
    refine o_val (v_assign rfl) rfl ?_
    refine o_nil ?_
    refine thn_n ?_
    refine w_ret ?_
    refine (thn_r ?_)
    exact ret_ok (G := [IsStore b l last]) (resC2 V.a34 rfl (by first | exact mm0 | exact mm1 | exact mm2 | exact mm3 | exact mm4 | exact mm5 | exact mm6 | exact mm7 | exact mm8 | exact mm9 | exact mm10 | exact mm11 | exact mm12 | exact mm13 | exact mm14) rfl rfl) ⟨rfl, rfl⟩ (sub (.cons (by first | exact rr0 | exact rr1 | exact rr2 | exact rr3 | exact rr4 | exact rr5 | exact rr6 | exact rr7 | exact rr8 | exact rr9 | exact rr10 | exact rr11 | exact rr12 | exact rr13 | exact rr14) .nil) (by first | exact dd0 | exact dd1 | exact dd2 | exact dd3 | exact dd4 | exact dd5 | exact dd6 | exact dd7 | exact dd8 | exact dd9 | exact dd10 | exact dd11 | exact dd12 | exact dd13 | exact dd14))
  ·
    exact absurd h11 (by omega)

set_option maxRecDepth 100000 in
theorem s_drop (b : Nat) (m : Int) (l : List It) (last : Int) (hl : l.length ≤ 1000) (i : Nat) (hi : i < l.length) (hm : idx l (isH m) = i) : Ctr Try.prog 9 [.pointer (some ⟨b, 0, none⟩), .int .i64 m] [IsStore b l last] (Ret fun v G => v = .tuple #[.agg (enc l[i]).toArray, .bool true] ∧ G = [IsStore b (l.eraseIdx i) last]) := by
  refine spec_of [(0, _), (1, _)] Try.func9 rfl Try.ntmps9 rfl rfl ?_
  intro w0 F
  refine w_seq ?_
  refine w_region ?_
  refine o_alloc V.z34 rfl ?_
  intro b4
  refine o_val (v_assign rfl) rfl ?_
  refine o_nil ?_
  refine thn_n ?_
  refine w_seq ?_
  refine w_region ?_
  refine o_val (v_move rfl) rfl ?_
  refine o_val (v_move rfl) rfl ?_
  refine o_call (s_get b m l last hl i hi hm) V.b11  rfl (.cons (by first | exact rr0 | exact rr1 | exact rr2 | exact rr3 | exact rr4 | exact rr5 | exact rr6 | exact rr7 | exact rr8 | exact rr9 | exact rr10 | exact rr11 | exact rr12 | exact rr13 | exact rr14) .nil) rfl ?_
  rintro _ _ ⟨rfl, rfl⟩
  refine o_val (v_move rfl) rfl ?_
  refine o_val (v_extract rfl rfl) rfl ?_
  refine o_val (v_extract rfl rfl) rfl ?_
  refine o_alloc V.z34 rfl ?_
  intro b6
  refine o_eff (v_storeAgg V.a34 rfl rfl (us := [_, _, _, _, _, _]) rfl rfl (by first | exact pp0 | exact pp1 | exact pp2 | exact pp3 | exact pp4 | exact pp5 | exact pp6 | exact pp7 | exact pp8 | exact pp9 | exact pp10 | exact pp11 | exact pp12 | exact pp13 | exact pp14) (by exact Nat.le_of_ble_eq_true rfl) rfl) ?_
  refine o_val (v_assign rfl) rfl ?_
  refine o_nil ?_
  refine thn_n ?_
  refine w_seq ?_
  refine w_seq ?_
  refine w_region ?_
  refine o_val (v_move rfl) rfl ?_
  refine o_nil ?_
  refine thn_n ?_
  refine w_condT rfl ?_
  refine w_seq ?_
  refine w_region ?_
  refine o_val (v_move rfl) rfl ?_
  refine o_val (v_move rfl) rfl ?_
  refine o_call (s_place_some b m l last hl i hi hm) V.b19  rfl (.cons (by first | exact rr0 | exact rr1 | exact rr2 | exact rr3 | exact rr4 | exact rr5 | exact rr6 | exact rr7 | exact rr8 | exact rr9 | exact rr10 | exact rr11 | exact rr12 | exact rr13 | exact rr14) .nil) rfl ?_
  rintro _ _ ⟨rfl, rfl⟩
  refine o_val (v_assign rfl) rfl ?_
  refine o_nil ?_
  refine thn_n ?_
  refine w_opn (fun h hh => hh) ?_
  rintro ⟨p, cap⟩ _
  dsimp only
  refine w_region ?_
  refine o_val (v_move rfl) rfl ?_
  refine o_val (v_move rfl) rfl ?_
  refine o_val (v_nil rfl) rfl ?_
  refine o_val (v_fieldAddr V.f42_0 rfl) rfl ?_
  refine o_val (v_load V.s40 rfl (by first | exact mm0 | exact mm1 | exact mm2 | exact mm3 | exact mm4 | exact mm5 | exact mm6 | exact mm7 | exact mm8 | exact mm9 | exact mm10 | exact mm11 | exact mm12 | exact mm13 | exact mm14) rfl) rfl ?_
  refine o_val (v_move rfl) rfl ?_
  refine o_val (v_move rfl) rfl ?_
  refine o_val (v_add rfl rfl (wrapI (by omega) (by omega))) rfl ?_
  refine o_call (s_delete l p cap i hi hl) V.b20  rfl (.cons (by first | exact rr0 | exact rr1 | exact rr2 | exact rr3 | exact rr4 | exact rr5 | exact rr6 | exact rr7 | exact rr8 | exact rr9 | exact rr10 | exact rr11 | exact rr12 | exact rr13 | exact rr14) .nil) rfl ?_
  rintro _ _ ⟨rfl, rfl⟩
  refine o_val (v_nil rfl) rfl ?_
  refine o_val (v_fieldAddr V.f42_0 rfl) rfl ?_
  refine o_eff (v_store V.s40 rfl rfl rfl (by first | exact pp0 | exact pp1 | exact pp2 | exact pp3 | exact pp4 | exact pp5 | exact pp6 | exact pp7 | exact pp8 | exact pp9 | exact pp10 | exact pp11 | exact pp12 | exact pp13 | exact pp14) (by exact Nat.le_of_ble_eq_true rfl) rfl) ?_
  refine o_nil ?_
  refine thn_n ?_
  refine w_seq ?_
  refine w_sub (fold' (.cons (by first | exact rr0 | exact rr1 | exact rr2 | exact rr3 | exact rr4 | exact rr5 | exact rr6 | exact rr7 | exact rr8 | exact rr9 | exact rr10 | exact rr11 | exact rr12 | exact rr13 | exact rr14) (.cons (by first | exact rr0 | exact rr1 | exact rr2 | exact rr3 | exact rr4 | exact rr5 | exact rr6 | exact rr7 | exact rr8 | exact rr9 | exact rr10 | exact rr11 | exact rr12 | exact rr13 | exact rr14) .nil)) dd0 (fun w0 h hh => st_close (l := l.eraseIdx i) (by rw [List.length_eraseIdx, if_pos hi]) hh)) ?_
  refine w_region ?_
  refine o_val (v_loadAgg V.a34 rfl (by first | exact mm0 | exact mm1 | exact mm2 | exact mm3 | exact mm4 | exact mm5 | exact mm6 | exact mm7 | exact mm8 | exact mm9 | exact mm10 | exact mm11 | exact mm12 | exact mm13 | exact mm14) (vs := [_, _, _, _, _, _]) rfl rfl) rfl ?_
  refine o_val (v_move rfl) rfl ?_
  refine o_eff (v_storeAgg V.a34 rfl rfl (us := [_, _, _, _, _, _]) rfl rfl (by first | exact pp0 | exact pp1 | exact pp2 | exact pp3 | exact pp4 | exact pp5 | exact pp6 | exact pp7 | exact pp8 | exact pp9 | exact pp10 | exact pp11 | exact pp12 | exact pp13 | exact pp14) (by exact Nat.le_of_ble_eq_true rfl) rfl) ?_
  refine o_val (v_assign rfl) rfl ?_
  refine o_nil ?_
  refine thn_n ?_
  refine w_ret ?_
  exact ret_ok (G := [IsStore b (l.eraseIdx i) last]) (resC2 V.a34 rfl (by first | exact mm0 | exact mm1 | exact mm2 | exact mm3 | exact mm4 | exact mm5 | exact mm6 | exact mm7 | exact mm8 | exact mm9 | exact mm10 | exact mm11 | exact mm12 | exact mm13 | exact mm14) rfl rfl) ⟨rfl, rfl⟩ (sub (.cons (by first | exact rr0 | exact rr1 | exact rr2 | exact rr3 | exact rr4 | exact rr5 | exact rr6 | exact rr7 | exact rr8 | exact rr9 | exact rr10 | exact rr11 | exact rr12 | exact rr13 | exact rr14) .nil) (by first | exact dd0 | exact dd1 | exact dd2 | exact dd3 | exact dd4 | exact dd5 | exact dd6 | exact dd7 | exact dd8 | exact dd9 | exact dd10 | exact dd11 | exact dd12 | exact dd13 | exact dd14))
end Go.Proofs.Ytgpfhkbolhpoiaa

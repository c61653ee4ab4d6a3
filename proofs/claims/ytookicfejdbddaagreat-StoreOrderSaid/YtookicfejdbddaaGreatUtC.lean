/- Walks of functions that the law reaches, and what they lean on; no conditions. -/
import Derived.Test.YtookicfejdbddaaGreatUtB
set_option linter.unusedVariables false
set_option linter.unusedSimpArgs false
set_option linter.unnecessarySimpa false
set_option maxRecDepth 100000
namespace Go.Proofs.YtookicfejdbddaaGreat
open Go.Sl Go.StoreP
theorem fill_it (x : It) : Instr.fill (fun i => some (i * 6, 6)) ((List.replicate 1 [.int .i64 0, .int .i64 0, .int .i64 0, .pointer none, .bool false, .bool false]).flatten.toArray) [(0, .agg #[.int .i64 x.h, .int .i64 x.c, .int .i64 x.d, .pointer x.j, .bool x.late, .bool x.can])] = some ([x].flatMap enc).toArray := by simp [Instr.fill, enc, Value.cells, List.replicate]
theorem s_add (b : Nat) (aj : Addr) (c d : Int) (l : List It) (last : Int) (hl : l.length < 16) (h0 : 0 ≤ last) (h1 : last ≤ 1000000) : Ctr Tryz.prog 37 [.pointer (some ⟨b, 0, none⟩), .pointer (some aj), .int .i64 c, .int .i64 d] [IsStore b l last] (Ret fun v G => v = .tuple #[.int .i64 (last + 1), .bool true] ∧ G = [IsStore b (l ++ [(It.mk (last + 1) c d (some aj) false false false)]) (last + 1)]) := by
  refine spec_of [(0, _), (1, _), (2, _), (3, _)] Tryz.func37 rfl Tryz.ntmps37 rfl rfl ?_
  intro w0 F
  refine w_opn (fun h hh => hh) ?_
  rintro ⟨p, cap⟩ _
  dsimp only
  refine w_cap mm1 (fun hcp => ?_)
  refine w_seq ?_
  refine w_region ?_
  refine o_val (v_assign rfl) rfl ?_
  refine o_val (v_assign rfl) rfl ?_
  refine o_nil ?_
  refine thn_n ?_
  refine w_seq ?_
  refine w_seq ?_
  refine w_region ?_
  refine o_val (v_move rfl) rfl ?_
  refine o_val (v_to (v := .bool false) (v_eqnil Tryz.underlying62 rfl rfl) rfl) rfl ?_
  refine o_val (v_move rfl) rfl ?_
  refine o_want rfl ?_
  refine o_val (v_move rfl) rfl ?_
  refine o_want rfl ?_
  refine o_val (v_to (v := .bool false) (v_eqnil Tryz.underlying58 rfl rfl) rfl) rfl ?_
  refine o_val (v_pickF rfl rfl) rfl ?_
  refine o_val (v_move rfl) rfl ?_
  refine o_want rfl ?_
  refine o_val (v_move rfl) rfl ?_
  refine o_want rfl ?_
  refine o_val (v_nil rfl) rfl ?_
  refine o_want rfl ?_
  refine o_val (v_fieldAddr X.f130_0 rfl) rfl ?_
  refine o_want rfl ?_
  refine o_val (v_load X.s71 rfl (by repeat first | exact .head _ | apply List.Mem.tail) rfl) rfl ?_
  refine o_want rfl ?_
  refine o_val (v_len (ty' := 0) Tryz.underlying71 rfl) rfl ?_
  refine o_want rfl ?_
  refine o_val (v_geq rfl rfl) rfl ?_
  refine o_val (v_pickF rfl rfl) rfl ?_
  refine o_nil ?_
  refine thn_n ?_
  first | refine w_condD rfl (fun h23 => ?_) (fun h23 => ?_) | refine w_cond rfl (fun h23 => ?_) (fun h23 => ?_)
  ·
    exact absurd h23 (by omega)
  ·
    refine w_skip ?_
    refine thn_n ?_
    refine w_seq ?_
    refine w_region ?_
    refine o_val (v_move rfl) rfl ?_
    refine o_val (v_nil rfl) rfl ?_
    refine o_val (v_fieldAddr X.f130_1 rfl) rfl ?_
    refine o_val (v_load X.s3 rfl (by repeat first | exact .head _ | apply List.Mem.tail) rfl) rfl ?_
    refine o_val (v_add rfl rfl (wrapI (by omega) (by omega))) rfl ?_
    refine o_val (v_nil rfl) rfl ?_
    refine o_val (v_fieldAddr X.f130_1 rfl) rfl ?_
    refine o_eff (v_store X.s3 rfl rfl rfl (by repeat first | exact .head | apply Rep.tail) (by exact Nat.le_of_ble_eq_true rfl) rfl) ?_
    refine o_nil ?_
    refine thn_n ?_
    refine w_seq ?_
    refine w_net [⟨[], [], [0], 0, 0⟩, ⟨[], [], [0], 0, 0⟩, ⟨[1], [1], [], 0, 0⟩, ⟨[1, 2], [2], [], 0, 0⟩, ⟨[1, 2, 3], [3], [], 0, 0⟩, ⟨[], [], [0], 0, 0⟩, ⟨[5], [5], [], 0, 0⟩, ⟨[5, 6], [6], [], 0, 0⟩, ⟨[5, 6, 7], [7], [], 0, 0⟩, ⟨[], [], [2], 0, 0⟩, ⟨[], [], [3], 0, 0⟩, ⟨[], [], [1], 0, 0⟩, ⟨[5, 6, 7, 8, 9, 10, 11], [8, 9, 10, 11], [], 0, 0⟩, ⟨[5, 6, 7, 8, 9, 10, 11, 12], [12], [], 0, 0⟩, ⟨[1, 2, 3, 4, 5, 6, 7, 8, 9, 10, 11, 12, 13], [4, 13], [], 0, 0⟩, ⟨[0, 1, 2, 3, 4, 5, 6, 7, 8, 9, 10, 11, 12, 13, 14], [0], [], 0, 0⟩, ⟨[0, 1, 2, 3, 4, 5, 6, 7, 8, 9, 10, 11, 12, 13, 14, 15], [15], [], 0, 0⟩, ⟨[0, 1, 2, 3, 4, 5, 6, 7, 8, 9, 10, 11, 12, 13, 14, 15, 16], [16, 14], [], 0, 0⟩] [⟨fun y => Cel b 130 [.slice p l.length cap, .int .i64 (last + 1)], none, some 17, [4, 8]⟩, ⟨fun y => Row IT p l.length cap l, none, some 14, []⟩, ⟨fun y => Row (IT) (some ⟨(blk' (slP (y 13))), 0, none⟩) 1 1 [(It.mk (last + 1) c d (some aj) false false false)], some 13, none, [14]⟩, ⟨fun y => Row (IT) (slP (y 14)) (l.length + 1) (slC (y 14)) (l ++ [(It.mk (last + 1) c d (some aj) false false false)]), some 14, none, []⟩, ⟨fun y => Cel b 130 [.slice (slP (y 14)) (l.length + 1) (slC (y 14)), .int .i64 (last + 1)], some 17, none, []⟩] F X.mixed (by kernel_rfl) rfl (fun _ => .refl _) (locT_0 _ (locT_0 _ (locT_1 [5, 6, 7, 8, 9, 10, 11, 12] rfl (by intro y y2 h; simp only [h 13 (.inl rfl)]) (locT_1 [1, 2, 3, 4, 5, 6, 7, 8, 9, 10, 11, 12, 13] rfl (by intro y y2 h; simp only [h 14 (.inl rfl)]) (locT_1 [0, 1, 2, 3, 4, 5, 6, 7, 8, 9, 10, 11, 12, 13, 14, 15, 16] rfl (by intro y y2 h; simp only [h 14 (.inr (by decide))]) locT_nil))))) ?_
    refine net_pure (fun y => [(0, _)]) (fun y => rfl) rfl rfl rfl (fun y hA L => st_v (v_move rfl) ⟨rfl, rfl⟩) (by intros; rfl) (by intro y y2 h; rfl) ?_
    refine net_pure (fun y => [(0, _)]) (fun y => rfl) rfl rfl rfl (fun y hA L => st_v (v_move rfl) ⟨rfl, rfl⟩) (by intros; rfl) (by intro y y2 h; rfl) ?_
    refine net_pure (fun y => [(32, _)]) (fun y => rfl) rfl rfl rfl (fun y hA L => st_v (v_nil rfl) ⟨rfl, rfl⟩) (by intros; rfl) (by intro y y2 h; rfl) ?_
    refine net_pure (fun y => [(33, _)]) (fun y => rfl) rfl rfl rfl (fun y hA L => st_v (v_fieldAddr X.f130_0 rfl) ⟨rfl, rfl⟩) (by intros; rfl) (by intro y y2 h; rfl) ?_
    refine net_read (fun y => [Cel b 130 [.slice p l.length cap, .int .i64 (last + 1)]]) (fun y => [(34, _)]) (fun y => rfl) rfl (fun y => rfl) rfl (fun y FF hA => st_v (v_load X.s71 rfl (by repeat first | exact .head _ | apply List.Mem.tail) rfl) ⟨rfl, rfl⟩) (by intros; rfl) (by intro y y2 h; rfl) ?_
    refine net_pure (fun y => [(0, _)]) (fun y => rfl) rfl rfl rfl (fun y hA L => st_v (v_move rfl) ⟨rfl, rfl⟩) (by intros; rfl) (by intro y y2 h; rfl) ?_
    refine net_pure (fun y => [(36, _)]) (fun y => rfl) rfl rfl rfl (fun y hA L => st_v (v_nil rfl) ⟨rfl, rfl⟩) (by intros; rfl) (by intro y y2 h; rfl) ?_
    refine net_pure (fun y => [(37, _)]) (fun y => rfl) rfl rfl rfl (fun y hA L => st_v (v_fieldAddr X.f130_1 rfl) ⟨rfl, rfl⟩) (by intros; rfl) (by intro y y2 h; rfl) ?_
    refine net_read (fun y => [Cel b 130 [.slice p l.length cap, .int .i64 (last + 1)]]) (fun y => [(38, _)]) (fun y => rfl) rfl (fun y => rfl) rfl (fun y FF hA => st_v (v_load X.s3 rfl (by repeat first | exact .head _ | apply List.Mem.tail) rfl) ⟨rfl, rfl⟩) (by intros; rfl) (by intro y y2 h; rfl) ?_
    refine net_pure (fun y => [(2, _)]) (fun y => rfl) rfl rfl rfl (fun y hA L => st_v (v_move rfl) ⟨rfl, rfl⟩) (by intros; rfl) (by intro y y2 h; rfl) ?_
    refine net_pure (fun y => [(3, _)]) (fun y => rfl) rfl rfl rfl (fun y hA L => st_v (v_move rfl) ⟨rfl, rfl⟩) (by intros; rfl) (by intro y y2 h; rfl) ?_
    refine net_pure (fun y => [(1, _)]) (fun y => rfl) rfl rfl rfl (fun y hA L => st_v (v_move rfl) ⟨rfl, rfl⟩) (by intros; rfl) (by intro y y2 h; rfl) ?_
    refine net_pure (fun y => [(39, _), (40, _), (41, _), (42, _)]) (fun y => rfl) rfl rfl rfl (fun y hA L => st_v (v_build X.pl68 X.z68 rfl (cs := [_, _, _, _, _, _]) rfl) ⟨rfl, rfl⟩) (by intros; rfl) (by intro y y2 h; rfl) ?_
    refine net_new (fun y v => .slice (some ⟨blk' (slP v), 0, none⟩) 1 1) (fun y v => True) (fun y => []) (fun y => []) (fun y v => [Row (IT) (some ⟨(blk' (slP v)), 0, none⟩) 1 1 [(It.mk (last + 1) c d (some aj) false false false)]]) (fun y => [(43, _)]) (fun y => rfl) (fun y => rfl) (fun y => rfl) (fun y => rfl) (fun y FF hA => st_newN (r_buildX (IT) ([(It.mk (last + 1) c d (some aj) false false false)]) X.sl71 X.z68 rfl rfl rfl (fill_it (It.mk (last + 1) c d (some aj) false false false)) rfl)) (by intros; rfl) (by intros; rfl) (by intros; rfl) (by intro y y2 h; simp only [h 13 (.inl rfl)]) (by intro y y2 h; rfl) ?_
    refine net_new (fun y v => .slice (slP v) (l.length + 1) (slC v)) (fun y v => True) (fun y => [Row IT p l.length cap l]) (fun y => [Row (IT) (some ⟨(blk' (slP (y 13))), 0, none⟩) 1 1 [(It.mk (last + 1) c d (some aj) false false false)]]) (fun y v => [Row (IT) (slP v) (l.length + 1) (slC v) (l ++ [(It.mk (last + 1) c d (some aj) false false false)])]) (fun y => [(35, _), (44, _)]) (fun y => rfl) (fun y => rfl) (fun y => rfl) (fun y => rfl) (fun y FF hA => st_appN (r_appendX (c := (IT)) X.sl71 X.z68 rfl rfl rfl rfl rr0 (own (by repeat first | exact .head _ | apply List.Mem.tail)) (by first | omega | (simp; omega))) (.refl _)) (by intros; rfl) (by intros; rfl) (by intros; rfl) (by intro y y2 h; simp only [h 13 (.inr (by decide)), h 14 (.inl rfl)]) (by intro y y2 h; rfl) ?_
    refine net_pure (fun y => [(31, _)]) (fun y => rfl) rfl rfl rfl (fun y hA L => st_v (v_nil rfl) ⟨rfl, rfl⟩) (by intros; rfl) (by intro y y2 h; rfl) ?_
    refine net_pure (fun y => [(46, _)]) (fun y => rfl) rfl rfl rfl (fun y hA L => st_v (v_fieldAddr X.f130_0 rfl) ⟨rfl, rfl⟩) (by intros; rfl) (by intro y y2 h; rfl) ?_
    refine net_eff (fun y => [Cel b 130 [.slice p l.length cap, .int .i64 (last + 1)]]) (fun y => []) (fun y => [Cel b 130 [.slice (slP (y 14)) (l.length + 1) (slC (y 14)), .int .i64 (last + 1)]]) (fun y => [(47, _), (45, _)]) (fun y => rfl) (fun y => rfl) (fun y => rfl) (fun y => rfl) (fun y FF hA => st_v (v_store X.s71 rfl rfl rfl (by repeat first | exact .head | apply Rep.tail) (by exact Nat.le_of_ble_eq_true rfl) rfl) ⟨rfl, .refl _⟩) (by intros; rfl) (by intros; rfl) (by intro y y2 h; first | rfl | simp only [h 14 (.inr (by decide))]) ?_
    refine net_nil ?_
    intro y hA
    clear hA
    refine thn_n ?_
    refine w_keep _ (.cons (d := 0) rfl (.nil _)) ?_
    refine w_sub (M := Row (IT) (some ⟨(blk' (slP (y 13))), 0, none⟩) 1 1 [(It.mk (last + 1) c d (some aj) false false false)] :: Row (IT) (slP (y 14)) (l.length + 1) (slC (y 14)) (l ++ [(It.mk (last + 1) c d (some aj) false false false)]) :: Cel b 130 [.slice (slP (y 14)) (l.length + 1) (slC (y 14)), .int .i64 (last + 1)] :: F) (fun _ _ h => h) ?_
    refine w_sub (sub .nil (.skip (.keep (.keep .refl)))) ?_
    simp only [List.nil_append]
    generalize (blk' (slP (y 13))) = b44
    generalize (slP (y 14)) = p45
    generalize (slC (y 14)) = c45
    refine w_seq ?_
    refine w_region ?_
    refine o_val (v_move rfl) rfl ?_
    refine o_val (v_nil rfl) rfl ?_
    refine o_val (v_fieldAddr X.f130_1 rfl) rfl ?_
    refine o_val (v_load X.s3 rfl (by repeat first | exact .head _ | apply List.Mem.tail) rfl) rfl ?_
    refine o_val (v_assign rfl) rfl ?_
    refine o_val (v_assign rfl) rfl ?_
    refine o_nil ?_
    refine thn_n ?_
    refine w_ret ?_
    exact ret_ok (G := [IsStore b (l ++ [(It.mk (last + 1) c d (some aj) false false false)]) (last + 1)]) (res2 rfl rfl) ⟨rfl, rfl⟩ (fold' (.cons (by repeat first | exact .head | apply Rem.tail) (.cons (by repeat first | exact .head | apply Rem.tail) .nil)) (by repeat first | exact .refl | apply Drop.skip) (fun w0 h hh => st_close (by simp) hh))
end Go.Proofs.YtookicfejdbddaaGreat

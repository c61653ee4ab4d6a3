/- Walks of functions that the law reaches, and what they lean on; no conditions. -/
import Derived.Test.YtookicfejdbddaaGreatUtI
import Derived.Test.YtookicfejdbddaaGreatUtStep2
set_option linter.unusedVariables false
set_option linter.unusedSimpArgs false
set_option linter.unnecessarySimpa false
set_option maxRecDepth 100000
namespace Go.Proofs.YtookicfejdbddaaGreat
open Go.Sl Go.StoreP Go.Cr
theorem s_tick (b : Nat) (now : Int) (l : List It) (last : Int) (hl : l.length ≤ 1000) : Ctr Tryz.prog 42 [.pointer (some ⟨b, 0, none⟩), .int .i64 now] [IsStore b l last, JL l] (Ret fun v G => ∃ p c, v = .slice p (l.filter (StoreP.due now)).length c ∧ G = [IsStore b (l.map (StoreP.mark now)) last, JL (l.map (StoreP.mark now))]) := fun w0 F w hh => by
  refine (s_tick0 b now l last hl w0 F w hh).mono ?_
  rintro e w' ⟨G, h1, v, rfl, p, c, rfl, rfl⟩
  rw [nDue_all, mkL_all] at *
  refine ⟨_, ((jl_same (l := l) (m := l.map (StoreP.mark now)) ?_) w0 w' (h1.perm (List.Perm.swap _ _ _))).perm (List.Perm.swap _ _ _), _, rfl, p, c, rfl, rfl⟩
  rw [List.map_map]
  refine List.map_congr_left (fun x _ => ?_)
  show (x.j, x.dn) = ((StoreP.mark now x).j, (StoreP.mark now x).dn)
  unfold StoreP.mark
  split <;> rfl
theorem jl_one {a : Addr} {h c d : Int} {w0 : World} {g : Hp} (k : sats w0 [JobW (some a)] g) : JL [⟨h, c, d, some a, false, false, false⟩] w0 g := k
theorem jl_snoc {l : List It} {a : Addr} {h c d : Int} {w0 : World} {g : Hp} (k : sats w0 [JL l, JobW (some a)] g) : JL (l ++ [⟨h, c, d, some a, false, false, false⟩]) w0 g := by
  obtain ⟨h1, h2, d, l1, l2, p, q⟩ := k
  show sats w0 ((l ++ [_]).map JB) g
  rw [List.map_append]
  exact sats_append.2 ⟨h1, h2, d, l1, l2, p, q⟩
theorem jl_nil : ∀ (w0 : World), JL [] w0 (fun _ => none) := fun _ => trivial
theorem jl_out {l : List It} {k : Nat} (hk : k < l.length) {w0 : World} {g : Hp} (h : sats w0 [JL l] g) : JL (l.eraseIdx k) w0 g := by
  obtain ⟨h1, h2, d, l1, l2, p, q⟩ := h
  obtain ⟨g1, g2, d2, m1, m2, p2, q2⟩ := sats_perm (jl_perm hk) p
  exact sats_mono (Hp.le_trans m2 l1) q2
theorem c_stepL (l : List It) (k : Nat) (hk : k < l.length) (hd : l[k].dn = false) (f : Nat → Int) (hf : ∀ i, 0 ≤ f i ∧ f i < 256) : Ctr Tryz.prog 41 [.pointer l[k].j, .int .i64 1073741824] [JL l, TB f] (Ret fun v G => v = .int .i64 198 ∧ G = [JL (l.set k { l[k] with dn := true }), TB f]) := fun w0 F w hi => by
  have hJ : JB l[k] = JobW l[k].j := by unfold JB; rw [hd]
  have h1 : Inv w0 ([JobW l[k].j, TB f] ++ ((l.eraseIdx k).map JB ++ F)) w := by
    have h2 := hi.unstar.perm ((jl_perm hk).append_right (TB f :: F))
    rw [hJ] at h2
    refine h2.perm (List.Perm.cons _ ?_)
    exact List.perm_middle
  refine (c_step l[k].j f hf w0 _ w h1).mono ?_
  rintro e w' ⟨G, h3, v, rfl, rfl, rfl⟩
  refine ⟨[JL (l.set k { l[k] with dn := true }), TB f], Inv.star ?_, _, rfl, rfl, rfl⟩
  have hs : k < (l.set k { l[k] with dn := true }).length := by rw [List.length_set]; exact hk
  refine Inv.perm ?_ ((jl_perm hs).symm.append_right (TB f :: F))
  rw [List.eraseIdx_set_eq, List.getElem_set_self]
  refine h3.perm (List.Perm.cons _ ?_)
  exact (List.perm_middle (a := TB f) (l₁ := (l.eraseIdx k).map JB) (l₂ := F)).symm
theorem set_enc {l : List It} {k : Nat} (hk : k < l.length) : (l.set k { l[k] with dn := true }).flatMap enc = l.flatMap enc := by
  rw [List.flatMap_def, List.flatMap_def, List.map_set, enc_dn]
  have e := List.set_getElem_self (i := k) (show k < (l.map enc).length by rw [List.length_map]; exact hk)
  rw [List.getElem_map] at e
  rw [e]
theorem s_len (b : Nat) (l : List It) (last : Int) (hl : l.length ≤ 1000) : Ctr Tryz.prog 84 [.pointer (some ⟨b, 0, none⟩)] [IsStore b l last] (Ret fun v G => v = .int .i64 (l.length : Int) ∧ G = [IsStore b l last]) := by
  refine spec_of [(0, _)] Tryz.func84 rfl Tryz.ntmps84 rfl rfl ?_
  intro w0 F
  refine w_opn (fun h hh => hh) ?_
  rintro ⟨p, cap⟩ _
  dsimp only
  refine w_seq ?_
  refine w_region ?_
  refine o_val (v_assign rfl) rfl ?_
  refine o_nil ?_
  refine thn_n ?_
  refine w_seq ?_
  refine w_seq ?_
  refine w_region ?_
  refine o_val (v_move rfl) rfl ?_
  refine o_val (v_to (v := .bool false) (v_eqnil Tryz.underlying62 rfl rfl) rfl) rfl ?_
  refine o_nil ?_
  refine thn_n ?_
  refine w_condF rfl ?_
  refine w_skip ?_
  refine thn_n ?_
  refine w_seq ?_
  refine w_region ?_
  refine o_val (v_move rfl) rfl ?_
  refine o_val (v_nil rfl) rfl ?_
  refine o_val (v_fieldAddr X.f130_0 rfl) rfl ?_
  refine o_val (v_load X.s71 rfl (by repeat first | exact .head _ | apply List.Mem.tail) rfl) rfl ?_
  refine o_val (v_len (ty' := 0) Tryz.underlying71 rfl) rfl ?_
  refine o_val (v_assign rfl) rfl ?_
  refine o_nil ?_
  refine thn_n ?_
  refine w_ret ?_
  exact ret_ok (G := [IsStore b l last]) (res1 rfl) ⟨rfl, rfl⟩ (fold' (.cons (by repeat first | exact .head | apply Rem.tail) (.cons (by repeat first | exact .head | apply Rem.tail) .nil)) (by repeat first | exact .refl | apply Drop.skip) (fun w0 h hh => st_close (rfl) hh))
theorem s_waiting (b : Nat) (l : List It) (last : Int) (hl : l.length ≤ 1000) : Ctr Tryz.prog 67 [.pointer (some ⟨b, 0, none⟩)] [IsStore b l last, JL l] (Ret fun v G => v = .int .i64 ((l.filter (fun x => !ov x)).length : Int) ∧ G = [IsStore b l last, JL l]) := by
  refine spec_of [(0, _)] Tryz.func67 rfl Tryz.ntmps67 rfl rfl ?_
  intro w0 F
  refine w_opn (fun h hh => hh) ?_
  rintro ⟨p, cap⟩ _
  dsimp only
  refine w_seq ?_
  refine w_region ?_
  refine o_val (v_assign rfl) rfl ?_
  refine o_nil ?_
  refine thn_n ?_
  refine w_seq ?_
  refine w_seq ?_
  refine w_region ?_
  refine o_val (v_move rfl) rfl ?_
  refine o_val (v_to (v := .bool false) (v_eqnil Tryz.underlying62 rfl rfl) rfl) rfl ?_
  refine o_nil ?_
  refine thn_n ?_
  refine w_condF rfl ?_
  refine w_skip ?_
  refine thn_n ?_
  refine w_seq ?_
  refine w_region ?_
  refine o_val (v_assign rfl) rfl ?_
  refine o_nil ?_
  refine thn_n ?_
  refine w_seq ?_
  refine w_seq ?_
  refine w_region ?_
  refine o_val (v_move rfl) rfl ?_
  refine o_val (v_nil rfl) rfl ?_
  refine o_val (v_fieldAddr X.f130_0 rfl) rfl ?_
  refine o_val (v_load X.s71 rfl (by repeat first | exact .head _ | apply List.Mem.tail) rfl) rfl ?_
  refine o_val (v_len (ty' := 0) Tryz.underlying71 rfl) rfl ?_
  refine o_val (v_move rfl) rfl ?_
  refine o_nil ?_
  refine thn_n ?_
  refine w_block ?_
  refine w_loop1 (fun (k : Nat) => [(3, .int .i64 (((l.take k).filter (fun x => !ov x)).length : Int)), (11, .slice p l.length cap), (12, .int .i64 (l.length : Int)), (13, .int .i64 (k : Int))]) (fun (k : Nat) => Cel b 130 [.slice p l.length cap, .int .i64 last] :: Row IT p l.length cap l :: JL l :: F) (fun (k : Nat) => k ≤ l.length ∧ ((l.take k).filter (fun x => !ov x)).length ≤ k) (fun (k : Nat) => l.length - k) (i1 (0) ?_ (.cons rfl (.cons rfl (.cons rfl (.cons rfl (.nil _))))) (sub (.cons (by repeat first | exact .head | apply Rem.tail) (.cons (by repeat first | exact .head | apply Rem.tail) (.cons (by repeat first | exact .head | apply Rem.tail) .nil))) (by repeat first | exact .refl | apply Drop.skip))) ?_
  ·
    exact ⟨Nat.zero_le _, Nat.le_refl _⟩
  intro k
  rintro ⟨hk, hwk⟩
  refine w_seq ?_
  refine w_region ?_
  refine o_val (v_lss rfl rfl) rfl ?_
  refine o_nil ?_
  refine thn_n ?_
  refine w_seq ?_
  first | refine w_condD rfl (fun h14 => ?_) (fun h14 => ?_) | refine w_cond rfl (fun h14 => ?_) (fun h14 => ?_)
  ·
    refine w_skip ?_
    refine thn_n ?_
    refine w_seq ?_
    refine w_block ?_
    refine w_seq ?_
    have hk2 : k < l.length := by omega
    have hns := nWait_succ hk2
    rw [← IT.g_nat hk2] at hns
    refine w_region ?_
    refine o_val (r_index (c := (IT)) X.sl71 rfl rfl (own (by repeat first | exact .head _ | apply List.Mem.tail)) (by omega) (by omega)) rfl ?_
    refine o_val (r_loadA (c := (IT)) X.a68 rfl (own (by repeat first | exact .head _ | apply List.Mem.tail)) (by omega) (by omega) rfl) rfl ?_
    refine o_alloc X.z68 rfl ?_
    intro b5
    refine o_eff (v_storeAgg X.a68 rfl rfl (us := [_, _, _, _, _, _]) rfl rfl (by repeat first | exact .head | apply Rep.tail) (by exact Nat.le_of_ble_eq_true rfl) rfl) ?_
    refine o_nil ?_
    refine thn_n ?_
    rcases (Bool.eq_false_or_eq_true (ov (IT.g l (k : Int)))) with ho | ho
    ·
      refine w_seq ?_
      refine w_region ?_
      refine o_val (v_loadAgg X.a68 rfl (by repeat first | exact .head _ | apply List.Mem.tail) (vs := [_, _, _, _, _, _]) rfl rfl) rfl ?_
      refine o_call (s_overL l k hk2 true ho) X.b87  rfl (.cons (by repeat first | exact .head | apply Rem.tail) .nil) rfl ?_
      rintro _ _ ⟨rfl, rfl⟩
      refine o_val (v_to (v := .bool false) (v_not rfl) rfl) rfl ?_
      refine o_nil ?_
      refine thn_n ?_
      refine w_condF rfl ?_
      refine w_skip ?_
      refine blk_n ?_
      refine thn_n ?_
      refine w_region ?_
      refine o_val (v_add rfl rfl (wrapI (by omega) (by omega))) rfl ?_
      refine o_val (v_move rfl) rfl ?_
      refine o_nil ?_
      first | rw [show (((l.take k).filter (fun x => !ov x)).length : Int) + 1 = (((l.take (k + 1)).filter (fun x => !ov x)).length : Int) from by rw [hns, ho]; rfl] | rw [show ((l.take k).filter (fun x => !ov x)).length = ((l.take (k + 1)).filter (fun x => !ov x)).length from by rw [hns, ho]; rfl]
      refine j1 (k + 1) ?_ (.cons rfl (.cons rfl (.cons rfl (.cons rfl (.nil _))))) (sub (.cons (by repeat first | exact .head | apply Rem.tail) (.cons (by repeat first | exact .head | apply Rem.tail) (.cons (by repeat first | exact .head | apply Rem.tail) .nil))) (by repeat first | exact .refl | apply Drop.skip))
      exact ⟨⟨by omega, by rw [hns, ho]; first | omega | (simp; omega)⟩, by omega⟩
    ·
      refine w_seq ?_
      refine w_region ?_
      refine o_val (v_loadAgg X.a68 rfl (by repeat first | exact .head _ | apply List.Mem.tail) (vs := [_, _, _, _, _, _]) rfl rfl) rfl ?_
      refine o_call (s_overL l k hk2 false ho) X.b87  rfl (.cons (by repeat first | exact .head | apply Rem.tail) .nil) rfl ?_
      rintro _ _ ⟨rfl, rfl⟩
      refine o_val (v_to (v := .bool true) (v_not rfl) rfl) rfl ?_
      refine o_nil ?_
      refine thn_n ?_
      refine w_condT rfl ?_
      refine w_region ?_
      refine o_val (v_move rfl) rfl ?_
      refine o_val (v_add rfl rfl (wrapI (by omega) (by omega))) rfl ?_
      refine o_val (v_assign rfl) rfl ?_
      refine o_nil ?_
      refine blk_n ?_
      refine thn_n ?_
      refine w_region ?_
      refine o_val (v_add rfl rfl (wrapI (by omega) (by omega))) rfl ?_
      refine o_val (v_move rfl) rfl ?_
      refine o_nil ?_
      first | rw [show (((l.take k).filter (fun x => !ov x)).length : Int) + 1 = (((l.take (k + 1)).filter (fun x => !ov x)).length : Int) from by rw [hns, ho]; rfl] | rw [show ((l.take k).filter (fun x => !ov x)).length = ((l.take (k + 1)).filter (fun x => !ov x)).length from by rw [hns, ho]; rfl]
      refine j1 (k + 1) ?_ (.cons rfl (.cons rfl (.cons rfl (.cons rfl (.nil _))))) (sub (.cons (by repeat first | exact .head | apply Rem.tail) (.cons (by repeat first | exact .head | apply Rem.tail) (.cons (by repeat first | exact .head | apply Rem.tail) .nil))) (by repeat first | exact .refl | apply Drop.skip))
      exact ⟨⟨by omega, by rw [hns, ho]; first | omega | (simp; omega)⟩, by omega⟩
  ·
    refine w_exit ?_
    refine thn_e ?_
    refine thn_e ?_
    refine blk_x ?_
    refine thn_n ?_
    refine w_seq ?_
    refine w_region ?_
    refine o_val (v_move rfl) rfl ?_
    refine o_val (v_assign rfl) rfl ?_
    refine o_nil ?_
    refine thn_n ?_
    refine w_ret ?_
    obtain rfl : k = l.length := by omega
    rw [List.take_length]
    exact end_ok (G := [IsStore b l last, JL l]) (res1 rfl) ⟨rfl, rfl⟩ ((fold' (.cons (by repeat first | exact .head | apply Rem.tail) (.cons (by repeat first | exact .head | apply Rem.tail) .nil)) dd0 (fun w0 h hh => st_close rfl hh)).trans (sub (.cons (by repeat first | exact .head | apply Rem.tail) (.cons (by repeat first | exact .head | apply Rem.tail) .nil)) (by repeat first | exact .refl | apply Drop.skip)))
set_option maxHeartbeats 2000000 in
theorem l_awake24  : Ctr Tryz.prog 34 [] [] (Ret fun v G => v = .bool true ∧ G = []) := by
  refine spec_of [] Tryz.func34 rfl Tryz.ntmps34 rfl rfl ?_
  intro w0 F
  refine w_seq ?_
  refine w_region ?_
  refine o_val (v_assign rfl) rfl ?_
  refine o_nil ?_
  refine thn_n ?_
  refine w_seq ?_
  refine w_region ?_
  refine o_call (s_new) X.b35  rfl .nil rfl ?_
  rintro _ _ ⟨b12, rfl, rfl⟩
  refine o_val (v_assign rfl) rfl ?_
  refine o_nil ?_
  refine thn_n ?_
  refine w_seq ?_
  refine w_region ?_
  refine o_call (c_file) X.b36  rfl .nil rfl ?_
  rintro v1 _ rfl
  refine o_call (c_job v1) X.b32  rfl (.cons (by repeat first | exact .head | apply Rem.tail) .nil) rfl ?_
  rintro _ _ ⟨aj, rfl, rfl⟩
  refine o_val (v_move rfl) rfl ?_
  refine o_val (v_extract rfl rfl) rfl ?_
  refine o_val (v_extract rfl rfl) rfl ?_
  refine o_val (v_assign rfl) rfl ?_
  refine o_val (v_assign rfl) rfl ?_
  refine o_nil ?_
  refine thn_n ?_
  refine w_seq ?_
  refine w_seq ?_
  refine w_region ?_
  refine o_val (v_move rfl) rfl ?_
  refine o_val (v_to (v := .bool false) (v_eqnil Tryz.underlying62 rfl rfl) rfl) rfl ?_
  refine o_val (v_move rfl) rfl ?_
  refine o_want rfl ?_
  refine o_val (v_move rfl) rfl ?_
  refine o_want rfl ?_
  refine o_val (v_F (v_neq rfl rfl) (by decide)) rfl ?_
  refine o_val (v_pickF rfl rfl) rfl ?_
  refine o_val (v_move rfl) rfl ?_
  refine o_want rfl ?_
  refine o_val (v_move rfl) rfl ?_
  refine o_want rfl ?_
  refine o_val (v_to (v := .bool false) (v_eqnil Tryz.underlying58 rfl rfl) rfl) rfl ?_
  refine o_val (v_pickF rfl rfl) rfl ?_
  refine o_nil ?_
  refine thn_n ?_
  refine w_condF rfl ?_
  refine w_skip ?_
  refine thn_n ?_
  refine w_seq ?_
  refine w_region ?_
  refine o_val (v_move rfl) rfl ?_
  refine o_val (v_move rfl) rfl ?_
  refine o_call (s_add b12 aj 5 0 [] 0 (by decide) (by decide) (by decide)) X.b37  rfl (.cons (by repeat first | exact .head | apply Rem.tail) .nil) rfl ?_
  rintro _ _ ⟨rfl, rfl⟩
  refine o_val (v_move rfl) rfl ?_
  refine o_val (v_extract rfl rfl) rfl ?_
  refine o_val (v_extract rfl rfl) rfl ?_
  refine o_val (v_assign rfl) rfl ?_
  refine o_val (v_assign rfl) rfl ?_
  refine o_nil ?_
  refine thn_n ?_
  refine w_seq ?_
  refine w_region ?_
  refine o_val (v_move rfl) rfl ?_
  refine o_call (s_drop b12 1 [(It.mk (0 + 1) (5) 0 (some aj) false false false)] (0 + 1) (by simp) 0 (by simp) rfl) X.b38  rfl (.cons (by repeat first | exact .head | apply Rem.tail) .nil) rfl ?_
  rintro _ _ ⟨rfl, rfl⟩
  refine o_val (v_move rfl) rfl ?_
  refine o_val (v_extract rfl rfl) rfl ?_
  refine o_val (v_extract rfl rfl) rfl ?_
  refine o_alloc X.z68 rfl ?_
  intro b6
  refine o_eff (v_storeAgg X.a68 rfl rfl (us := [_, _, _, _, _, _]) rfl rfl (by repeat first | exact .head | apply Rep.tail) (by exact Nat.le_of_ble_eq_true rfl) rfl) ?_
  refine o_val (v_assign rfl) rfl ?_
  refine o_nil ?_
  refine thn_n ?_
  refine w_seq ?_
  refine w_region ?_
  refine o_val (v_move rfl) rfl ?_
  refine o_val (v_move rfl) rfl ?_
  refine o_call (s_add b12 aj 6 0 [] (0 + 1) (by decide) (by decide) (by decide)) X.b37  rfl (.cons (by repeat first | exact .head | apply Rem.tail) .nil) rfl ?_
  rintro _ _ ⟨rfl, rfl⟩
  refine o_val (v_move rfl) rfl ?_
  refine o_val (v_extract rfl rfl) rfl ?_
  refine o_val (v_extract rfl rfl) rfl ?_
  refine o_val (v_assign rfl) rfl ?_
  refine o_val (v_assign rfl) rfl ?_
  refine o_nil ?_
  refine thn_n ?_
  refine w_seq ?_
  refine w_region ?_
  refine o_val (v_move rfl) rfl ?_
  refine o_call (s_get_no b12 1 [(It.mk (0 + 1 + 1) (6) 0 (some aj) false false false)] (0 + 1 + 1) (by simp) rfl) X.b40  rfl (.cons (by repeat first | exact .head | apply Rem.tail) .nil) rfl ?_
  rintro _ _ ⟨rfl, rfl⟩
  refine o_val (v_move rfl) rfl ?_
  refine o_val (v_extract rfl rfl) rfl ?_
  refine o_val (v_extract rfl rfl) rfl ?_
  refine o_alloc X.z68 rfl ?_
  intro b10
  refine o_eff (v_storeAgg X.a68 rfl rfl (us := [_, _, _, _, _, _]) rfl rfl (by repeat first | exact .head | apply Rep.tail) (by exact Nat.le_of_ble_eq_true rfl) rfl) ?_
  refine o_val (v_assign rfl) rfl ?_
  refine o_nil ?_
  refine thn_n ?_
  refine w_seq ?_
  refine w_sub (fold' (.cons (by repeat first | exact .head | apply Rem.tail) .nil) dd0 (fun w0 h hh => jl_one (h := 0 + 1 + 1) (c := 6) (d := 0) hh)) ?_
  refine w_region ?_
  refine o_val (v_move rfl) rfl ?_
  refine o_val (v_move rfl) rfl ?_
  refine o_want rfl ?_
  refine o_val (v_move rfl) rfl ?_
  refine o_val (v_pickT rfl rfl) rfl ?_
  refine o_val (v_move rfl) rfl ?_
  refine o_want rfl ?_
  refine o_val (v_move rfl) rfl ?_
  refine o_val (v_pickT rfl rfl) rfl ?_
  refine o_val (v_move rfl) rfl ?_
  refine o_want rfl ?_
  refine o_val (v_move rfl) rfl ?_
  refine o_want rfl ?_
  refine o_val (v_to (v := .bool true) (v_not rfl) rfl) rfl ?_
  refine o_val (v_pickT rfl rfl) rfl ?_
  refine o_val (v_move rfl) rfl ?_
  refine o_want rfl ?_
  refine o_val (v_move rfl) rfl ?_
  refine o_want rfl ?_
  refine o_val (v_T (v_eql rfl rfl) (by decide)) rfl ?_
  refine o_val (v_pickT rfl rfl) rfl ?_
  refine o_val (v_move rfl) rfl ?_
  refine o_want rfl ?_
  refine o_val (v_move rfl) rfl ?_
  refine o_want rfl ?_
  refine o_val (v_T (v_eql rfl rfl) (by decide)) rfl ?_
  refine o_val (v_pickT rfl rfl) rfl ?_
  refine o_val (v_move rfl) rfl ?_
  refine o_want rfl ?_
  refine o_val (v_fieldAddr X.f68_1 rfl) rfl ?_
  refine o_want rfl ?_
  refine o_val (v_load X.s3 rfl (by repeat first | exact .head _ | apply List.Mem.tail) rfl) rfl ?_
  refine o_want rfl ?_
  refine o_val (v_T (v_eql rfl rfl) rfl) rfl ?_
  refine o_val (v_pickT rfl rfl) rfl ?_
  refine o_val (v_move rfl) rfl ?_
  refine o_want rfl ?_
  refine o_val (v_move rfl) rfl ?_
  refine o_want rfl ?_
  refine o_call (s_len b12 [(It.mk (0 + 1 + 1) (6) 0 (some aj) false false false)] (0 + 1 + 1) (by simp)) X.b84  rfl (.cons (by repeat first | exact .head | apply Rem.tail) .nil) rfl ?_
  rintro _ _ ⟨rfl, rfl⟩
  refine o_want rfl ?_
  refine o_val (v_T (v_eql rfl rfl) rfl) rfl ?_
  refine o_val (v_pickT rfl rfl) rfl ?_
  refine o_val (v_move rfl) rfl ?_
  refine o_want rfl ?_
  refine o_val (v_move rfl) rfl ?_
  refine o_want rfl ?_
  refine o_call (s_waiting b12 [(It.mk (0 + 1 + 1) (6) 0 (some aj) false false false)] (0 + 1 + 1) (by simp)) X.b67  rfl (.cons (by repeat first | exact .head | apply Rem.tail) (.cons (by repeat first | exact .head | apply Rem.tail) .nil)) rfl ?_
  rintro _ _ ⟨rfl, rfl⟩
  refine o_want rfl ?_
  refine o_val (v_T (v_eql rfl rfl) rfl) rfl ?_
  refine o_val (v_pickT rfl rfl) rfl ?_
  refine o_val (v_assign rfl) rfl ?_
  refine o_nil ?_
  refine thn_n ?_
  refine w_ret ?_
  exact ret_ok (G := []) (res1 rfl) ⟨rfl, rfl⟩ (sub .nil (by repeat first | exact .refl | apply Drop.skip))
end Go.Proofs.YtookicfejdbddaaGreat

/- Walks of functions that the law reaches, and what they lean on; no conditions. -/
import Derived.Test.YtookicfejdbddaaGreatUtFacts
import Derived.Test.YtookicfejdbddaaGreatUtBase
set_option linter.unusedVariables false
set_option linter.unusedSimpArgs false
set_option linter.unnecessarySimpa false
set_option maxRecDepth 100000
namespace Go.Proofs.YtookicfejdbddaaGreat
open Go.Sl Go.StoreP
theorem s_is (x : It) (m : Int) (b : Nat) : Ctr Tryz.prog 135 [.agg (enc x).toArray, .pointer (some ⟨b, 0, none⟩)] [Cel b 3 [.int .i64 m]] (Ret fun v G => v = .bool (isH m x) ∧ G = [Cel b 3 [.int .i64 m]]) := by
  refine spec_of [(0, _), (1, _)] Tryz.func135 rfl Tryz.ntmps135 rfl rfl ?_
  intro w0 F
  refine w_seq ?_
  refine w_region ?_
  refine o_box rfl (cs := [_, _, _, _, _, _]) rfl rfl ?_
  intro b2
  refine o_val (v_assign rfl) rfl ?_
  refine o_nil ?_
  refine thn_n ?_
  refine w_seq ?_
  refine w_region ?_
  refine o_val (v_fieldAddr X.f68_0 rfl) rfl ?_
  refine o_val (v_load X.s3 rfl (by repeat first | exact .head _ | apply List.Mem.tail) rfl) rfl ?_
  refine o_val (v_load X.s3 rfl (by repeat first | exact .head _ | apply List.Mem.tail) rfl) rfl ?_
  refine o_val (v_eql rfl rfl) rfl ?_
  refine o_val (v_assign rfl) rfl ?_
  refine o_nil ?_
  refine thn_n ?_
  refine w_ret ?_
  exact ret_ok (G := [_]) (res1 rfl) ⟨rfl, rfl⟩ (sub (.cons (by repeat first | exact .head | apply Rem.tail) .nil) (by repeat first | exact .refl | apply Drop.skip))
theorem s_index (l : List It) (p : Option Addr) (cap : Nat) (cf : Nat) (fs cs : List Value) (A R : HProp) (pr : It → Bool) (hb : bodyB Tryz.prog cf = true) (hf : ∀ m, Ctr Tryz.prog cf (fs ++ [.agg (enc m).toArray] ++ cs) [A] (Ret fun v G => v = .bool (pr m) ∧ G = [A])) (hR : ∀ w0 h, R w0 h → RdR IT p l.length l w0 h) (hl : l.length ≤ 1000) : Ctr Tryz.prog 134 [.slice p l.length cap, .func (.func cf) fs.toArray cs.toArray] [R, A] (Ret fun v G => v = .int .i64 (idx l pr) ∧ G = [R, A]) := by
  refine spec_of [(0, _), (1, _)] Tryz.func134 rfl Tryz.ntmps134 rfl rfl ?_
  intro w0 F
  refine w_seq ?_
  refine w_region ?_
  refine o_val (v_assign rfl) rfl ?_
  refine o_nil ?_
  refine thn_n ?_
  refine w_seq ?_
  refine w_seq ?_
  refine w_region ?_
  refine o_val (v_move rfl) rfl ?_
  refine o_val (v_len (ty' := 0) Tryz.underlying71 rfl) rfl ?_
  refine o_val (v_move rfl) rfl ?_
  refine o_nil ?_
  refine thn_n ?_
  refine w_block ?_
  refine w_loop1 (fun (k : Nat) => [(0, .slice p l.length cap), (1, .func (.func cf) fs.toArray cs.toArray), (7, .int .i64 (l.length : Int)), (8, .int .i64 (k : Int))]) (fun (k : Nat) => R :: A :: F) (fun (k : Nat) => k ≤ l.length ∧ ∀ j (hj : j < l.length), j < k → pr l[j] = false) (fun (k : Nat) => l.length - k) (i1 (0) ?_ (.cons rfl (.cons rfl (.cons rfl (.cons rfl (.nil _))))) (sub (.cons (by repeat first | exact .head | apply Rem.tail) (.cons (by repeat first | exact .head | apply Rem.tail) .nil)) (by repeat first | exact .refl | apply Drop.skip))) ?_
  ·
    exact ⟨by omega, fun j hj h => by omega⟩
  intro k
  rintro ⟨hk, hno⟩
  refine w_seq ?_
  refine w_region ?_
  refine o_val (v_lss rfl rfl) rfl ?_
  refine o_nil ?_
  refine thn_n ?_
  refine w_seq ?_
  first | refine w_condD rfl (fun h9 => ?_) (fun h9 => ?_) | refine w_cond rfl (fun h9 => ?_) (fun h9 => ?_)
  ·
    refine w_skip ?_
    refine thn_n ?_
    refine w_seq ?_
    refine w_block ?_
    refine w_seq ?_
    refine w_region ?_
    refine o_val (v_move rfl) rfl ?_
    refine o_val (v_assign rfl) rfl ?_
    refine o_nil ?_
    refine thn_n ?_
    refine w_seq ?_
    have hk2 : k < l.length := by omega
    have hgk := IT.g_nat hk2
    refine w_region ?_
    refine o_val (v_move rfl) rfl ?_
    refine o_val (v_move rfl) rfl ?_
    refine o_val (v_move rfl) rfl ?_
    refine o_val (r_index (c := (IT)) X.sl71 rfl rfl (by first | exact own mm0 | exact own mm1 | exact own mm2 | exact own mm3 | exact own mm4 | exact own mm5 | exact own mm6 | exact own mm7 | exact own mm8 | exact own mm9 | exact own mm10 | exact own mm11 | exact rdH hR mm0 | exact rdH hR mm1 | exact rdH hR mm2 | exact rdH hR mm3 | exact rdH hR mm4 | exact rdH hR mm5 | exact rdH hR mm6 | exact rdH hR mm7 | exact rdH hR mm8 | exact rdH hR mm9 | exact rdH hR mm10 | exact rdH hR mm11) (by omega) (by omega)) rfl ?_
    refine o_val (r_loadA (c := (IT)) X.a68 rfl (by first | exact own mm0 | exact own mm1 | exact own mm2 | exact own mm3 | exact own mm4 | exact own mm5 | exact own mm6 | exact own mm7 | exact own mm8 | exact own mm9 | exact own mm10 | exact own mm11 | exact rdH hR mm0 | exact rdH hR mm1 | exact rdH hR mm2 | exact rdH hR mm3 | exact rdH hR mm4 | exact rdH hR mm5 | exact rdH hR mm6 | exact rdH hR mm7 | exact rdH hR mm8 | exact rdH hR mm9 | exact rdH hR mm10 | exact rdH hR mm11) (by omega) (by omega) rfl) rfl ?_
    refine o_callF (hf (IT.g l (k : Int))) hb rfl rfl (.cons (by repeat first | exact .head | apply Rem.tail) .nil) rfl ?_
    rintro _ _ ⟨rfl, rfl⟩
    refine o_nil ?_
    refine thn_n ?_
    first | refine w_condD rfl (fun h16 => ?_) (fun h16 => ?_) | refine w_cond rfl (fun h16 => ?_) (fun h16 => ?_)
    ·
      refine w_seq ?_
      refine w_region ?_
      refine o_val (v_move rfl) rfl ?_
      refine o_val (v_assign rfl) rfl ?_
      refine o_nil ?_
      refine thn_n ?_
      refine w_ret ?_
      refine (blk_r (thn_r (thn_r (blk_r (thn_r ?_)))))
      exact ret_ok (G := [R, A]) (res1 rfl) ⟨by rw [idx_yes hk2 (by rw [← hgk]; exact h16) (fun j hj => hno j (by omega) hj)], rfl⟩ (sub (.cons (by repeat first | exact .head | apply Rem.tail) (.cons (by repeat first | exact .head | apply Rem.tail) .nil)) (by repeat first | exact .refl | apply Drop.skip))
    ·
      refine w_skip ?_
      refine blk_n ?_
      refine thn_n ?_
      refine w_region ?_
      refine o_val (v_add rfl rfl (wrapI (by omega) (by omega))) rfl ?_
      refine o_val (v_move rfl) rfl ?_
      refine o_nil ?_
      refine j1 (k + 1) ?_ (.cons rfl (.cons rfl (.cons rfl (.cons rfl (.nil _))))) (sub (.cons (by repeat first | exact .head | apply Rem.tail) (.cons (by repeat first | exact .head | apply Rem.tail) .nil)) (by repeat first | exact .refl | apply Drop.skip))
      refine ⟨⟨by omega, fun j hj hlt => ?_⟩, by omega⟩
      by_cases e : j = k
      · subst e; rw [← hgk]; exact h16
      · exact hno j hj (by omega)
  ·
    refine w_exit ?_
    refine thn_e ?_
    refine thn_e ?_
    refine blk_x ?_
    refine thn_n ?_
    refine w_seq ?_
    refine w_region ?_
    refine o_val (v_assign rfl) rfl ?_
    refine o_nil ?_
    refine thn_n ?_
    refine w_ret ?_
    exact ret_ok (G := [R, A]) (res1 rfl) ⟨by rw [idx_no (fun j hj => hno j hj (by omega))], rfl⟩ (sub (.cons (by repeat first | exact .head | apply Rem.tail) (.cons (by repeat first | exact .head | apply Rem.tail) .nil)) (by repeat first | exact .refl | apply Drop.skip))
theorem s_place (b : Nat) (m : Int) (l : List It) (last : Int) (hl : l.length ≤ 1000) : Ctr Tryz.prog 85 [.pointer (some ⟨b, 0, none⟩), .int .i64 m] [IsStore b l last] (Ret fun v G => v = .int .i64 (idx l (isH m)) ∧ G = [IsStore b l last]) := by
  refine spec_of [(0, _), (1, _)] Tryz.func85 rfl Tryz.ntmps85 rfl rfl ?_
  intro w0 F
  refine w_opn (fun h hh => hh) ?_
  rintro ⟨p, cap⟩ _
  dsimp only
  refine w_seq ?_
  refine w_region ?_
  refine o_box rfl (cs := [_]) rfl rfl ?_
  intro b3
  refine o_val (v_assign rfl) rfl ?_
  refine o_nil ?_
  refine thn_n ?_
  refine w_seq ?_
  refine w_seq ?_
  refine w_region ?_
  refine o_val (v_move rfl) rfl ?_
  refine o_val (v_to (v := .bool false) (v_eqnil Tryz.underlying62 rfl rfl) rfl) rfl ?_
  refine o_nil ?_
  refine thn_n ?_
  refine w_condF rfl ?_
  refine w_skip ?_
  refine thn_n ?_
  refine w_seq ?_
  refine w_region ?_
  refine o_val (v_move rfl) rfl ?_
  refine o_val (v_nil rfl) rfl ?_
  refine o_val (v_fieldAddr X.f130_0 rfl) rfl ?_
  refine o_val (v_load X.s71 rfl (by repeat first | exact .head _ | apply List.Mem.tail) rfl) rfl ?_
  refine o_val (v_fn (fs := []) (cs := [_]) rfl rfl) rfl ?_
  refine o_call (s_index l p cap 135 [] [.pointer (some ⟨b3, 0, none⟩)] (Cel b3 3 [.int .i64 m]) (Row IT p l.length cap l) (isH m) X.b135 (fun x => s_is x m b3) (fun _ _ h => Row.rd h) (by omega)) X.b134  rfl (.cons (by repeat first | exact .head | apply Rem.tail) (.cons (by repeat first | exact .head | apply Rem.tail) .nil)) rfl ?_
  rintro _ _ ⟨rfl, rfl⟩
  refine o_val (v_assign rfl) rfl ?_
  refine o_nil ?_
  refine thn_n ?_
  refine w_ret ?_
  exact ret_ok (G := [IsStore b l last]) (res1 rfl) ⟨rfl, rfl⟩ (fold' (.cons (by repeat first | exact .head | apply Rem.tail) (.cons (by repeat first | exact .head | apply Rem.tail) .nil)) (by repeat first | exact .refl | apply Drop.skip) (fun w0 h hh => st_close (rfl) hh))
theorem s_delete0 (l : List It) (p : Option Addr) (cap i : Nat) (hi : i < l.length) (hl : l.length ≤ 1000) : Ctr Tryz.prog 86 [.slice p l.length cap, .int .i64 (i : Int), .int .i64 ((i : Int) + 1)] [Sl p l.length cap 68 6 (l.flatMap enc)] (Ret fun v G => v = .slice p (l.length - 1) cap ∧ G = [Sl p (l.length - 1) cap 68 6 ((l.eraseIdx i).flatMap enc)]) := by
  refine spec_of [(0, _), (1, _), (2, _)] Tryz.func86 rfl Tryz.ntmps86 rfl rfl ?_
  intro w0 F
  refine w_fact (p := l.length ≤ cap) (fun w hi => (sl_facts (p := p) hi (by repeat first | exact .head _ | apply List.Mem.tail)).2.1) (fun hcap => ?_)
  have hlen : i + (l.length - (i + 1)) = l.length - 1 := by omega
  refine w_seq ?_
  refine w_region ?_
  refine o_val (v_assign rfl) rfl ?_
  refine o_nil ?_
  refine thn_n ?_
  refine w_seq ?_
  refine w_region ?_
  refine o_val (v_move rfl) rfl ?_
  refine o_val (v_move rfl) rfl ?_
  refine o_val (v_move rfl) rfl ?_
  refine o_val (v_move rfl) rfl ?_
  refine o_val (v_len (ty' := 0) Tryz.underlying71 rfl) rfl ?_
  refine o_val (v_slice i (i + 1) l.length X.sl71 rfl ⟨_, rfl⟩ ⟨_, rfl⟩ ⟨_, rfl⟩ (by omega) (by omega) (by omega)) rfl ?_
  refine o_nil ?_
  refine thn_n ?_
  refine w_seq ?_
  refine w_seq ?_
  refine w_region ?_
  refine o_val (v_move rfl) rfl ?_
  refine o_val (v_move rfl) rfl ?_
  refine o_val (v_eql rfl rfl) rfl ?_
  refine o_nil ?_
  refine thn_n ?_
  first | refine w_condD rfl (fun h16 => ?_) (fun h16 => ?_) | refine w_cond rfl (fun h16 => ?_) (fun h16 => ?_)
  ·
    exact absurd h16 (by omega)
  ·
    refine w_skip ?_
    refine thn_n ?_
    refine w_seq ?_
    refine w_region ?_
    refine o_val (v_move rfl) rfl ?_
    refine o_val (v_len (ty' := 0) Tryz.underlying71 rfl) rfl ?_
    refine o_val (v_assign rfl) rfl ?_
    refine o_nil ?_
    refine thn_n ?_
    refine w_seq ?_
    refine w_chain (Ls := [_, (Sl p (l.length - 1) cap 68 6 ((l.eraseIdx i).flatMap enc) :: F)]) [⟨[], [], [0], 0, 0⟩, ⟨[], [], [1], 0, 0⟩, ⟨[0, 1], [0, 1], [], 0, 0⟩, ⟨[], [], [0], 0, 0⟩, ⟨[], [], [2], 0, 0⟩, ⟨[3, 4], [3, 4], [], 0, 0⟩, ⟨[0, 1, 2, 3, 4, 5], [2, 5], [], 0, 0⟩, ⟨[0, 1, 2, 3, 4, 5, 6], [6], [], 1, 1⟩] [6] X.mixed (by kernel_rfl) rfl rfl rfl rfl ?_
    refine owed_pure [(0, _)] rfl rfl (fun _ => st_v (v_move rfl) ⟨rfl, rfl⟩) ?_
    refine owed_pure [(1, _)] rfl rfl (fun _ => st_v (v_move rfl) ⟨rfl, rfl⟩) ?_
    refine owed_pure [(20, _), (21, _)] rfl rfl (fun _ => st_v (v_slice0 i cap X.sl71 rfl ⟨_, rfl⟩ rfl (by omega) (by omega)) ⟨rfl, rfl⟩) ?_
    refine owed_pure [(0, _)] rfl rfl (fun _ => st_v (v_move rfl) ⟨rfl, rfl⟩) ?_
    refine owed_pure [(2, _)] rfl rfl (fun _ => st_v (v_move rfl) ⟨rfl, rfl⟩) ?_
    refine owed_pure [(23, _), (24, _)] rfl rfl (fun _ => st_v (v_slice (i + 1) l.length cap X.sl71 rfl ⟨_, rfl⟩ ⟨rfl, rfl⟩ rfl (by omega) (by omega) (by omega)) ⟨rfl, rfl⟩) ?_
    refine owed_link [(22, _), (25, _)] rfl rfl rfl rfl (st_mono (st_x (x_appendDown (n := l.length) (k := i) (l := i + 1) X.sl71 rfl rfl rr0 (by omega) (by omega) (flat_one IT l))) (fun v L2 h => ⟨by rw [h.1, hlen], by rw [h.2, hlen, flat_take IT l i, flat_drop IT l (i + 1), ← List.flatMap_append, ← List.eraseIdx_eq_take_drop_succ]; exact .refl _⟩)) ?_
    refine owed_pure [(26, _)] rfl rfl (fun _ => st_v (v_assign rfl) ⟨rfl, rfl⟩) ?_
    refine owed_nil ?_
    refine thn_n ?_
    refine w_keep _ (.cons (d := 0) rfl (.cons (d := 7) rfl (.nil _))) ?_
    refine w_seq ?_
    refine w_region ?_
    refine o_val (v_move rfl) rfl ?_
    refine o_val (v_move rfl) rfl ?_
    refine o_val (v_len (ty' := 0) Tryz.underlying71 rfl) rfl ?_
    refine o_val (v_move rfl) rfl ?_
    refine o_val (v_slice (l.length - 1) l.length cap X.sl71 rfl ⟨_, rfl⟩ ⟨_, rfl⟩ rfl (by omega) (by omega) (by omega)) rfl ?_
    refine o_eff (v_clear X.sl71 X.z68 rfl rfl (by repeat first | exact .head _ | apply List.Mem.tail) (by omega)) ?_
    refine o_nil ?_
    refine thn_n ?_
    refine w_seq ?_
    refine w_region ?_
    refine o_val (v_move rfl) rfl ?_
    refine o_val (v_assign rfl) rfl ?_
    refine o_nil ?_
    refine thn_n ?_
    refine w_ret ?_
    exact ret_ok (G := [_]) (res1 rfl) ⟨rfl, rfl⟩ (sub (.cons (by repeat first | exact .head | apply Rem.tail) .nil) (by repeat first | exact .refl | apply Drop.skip))
theorem s_delete (l : List It) (p : Option Addr) (cap i : Nat) (hi : i < l.length) (hl : l.length ≤ 1000) : Ctr Tryz.prog 86 [.slice p l.length cap, .int .i64 (i : Int), .int .i64 ((i : Int) + 1)] [Row IT p l.length cap l] (Ret fun v G => v = .slice p (l.length - 1) cap ∧ G = [Row IT p (l.length - 1) cap (l.eraseIdx i)]) := fun w0 F w h => by
  refine (s_delete0 l p cap i hi hl w0 F w (h.imp (fun h hh => hh.2))).mono ?_
  rintro e w' ⟨G, h1, v, rfl, rfl, rfl⟩
  refine ⟨[Row IT p (l.length - 1) cap (l.eraseIdx i)], h1.imp (fun h hh => ⟨by rw [List.length_eraseIdx, if_pos hi], hh⟩), _, rfl, rfl, rfl⟩
end Go.Proofs.YtookicfejdbddaaGreat

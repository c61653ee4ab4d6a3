/- Walks of functions that the law reaches, and what they lean on; no conditions. -/
import Derived.Test.YtookicfejdbddaaGreatUtK
set_option linter.unusedVariables false
set_option linter.unusedSimpArgs false
set_option linter.unnecessarySimpa false
set_option maxRecDepth 100000
namespace Go.Proofs.YtookicfejdbddaaGreat
open Go.Sl Go.StoreP Go.Cr
theorem gB {K : List Int} (hB : ∀ x ∈ K, 0 ≤ x ∧ x < 256) (k : Nat) : 0 ≤ U5.g K (k : Int) ∧ U5.g K (k : Int) < 256 := by
  show 0 ≤ K.getD k 0 ∧ K.getD k 0 < 256
  rw [List.getD_eq_getElem?_getD]
  cases e : K[k]? with
  | none => exact ⟨Int.le_refl _, by decide⟩
  | some y => exact hB y (List.mem_of_getElem? e)
theorem st_dn {b : Nat} {K : List Int} {l : List It} {j : Nat} (hj : j < l.length) (h : kd K l[j] = 2) (hmj : j < (StoreP.mid K l (j + 1)).length) (hmg : (StoreP.mid K l (j + 1))[j] = l[j]) {last : Int} {w0 : World} {g : Hp} (k : sats w0 [IsStore b (StoreP.mid K l (j + 1)) last] g) : IsStore b (StoreP.mid K l j) last w0 g := by
  obtain ⟨h1, h2, d, l1, l2, p, q⟩ := k
  have e := mid_dn (K := K) hj h
  have e2 := set_enc hmj
  rw [hmg, e] at e2
  have hl := congrArg List.length e
  rw [List.length_set] at hl
  obtain ⟨i, t, s⟩ := st_enc hl e2.symm p
  exact ⟨i, t, sats_mono l1 s⟩
attribute [local irreducible] JL IsStore TB JobW JobD File StoreP.mid StoreP.cnt StoreP.fst
set_option maxHeartbeats 4000000 in
theorem l_order (p : Option Addr) (c : Nat) (K : List Int) (R : HProp) (hR : ∀ w0 h, R w0 h → RdR U5 p K.length K w0 h) (hB : ∀ x ∈ K, 0 ≤ x ∧ x < 256) (hcap : K.length ≤ c) (now : Int) (hn0 : 0 ≤ now) (hn1 : now < 256) (f : Nat → Int) (hf : ∀ i, 0 ≤ f i ∧ f i < 256) : Ctr Tryz.prog 7 [.slice p K.length c, .int .u8 now] [R, TB f] (Ret fun v G => v = .bool true ∧ G = []) := by
  refine spec_of [(0, _), (1, _)] Tryz.func7 rfl Tryz.ntmps7 rfl rfl ?_
  intro w0 F
  refine w_seq ?_
  refine w_region ?_
  refine o_val (v_assign rfl) rfl ?_
  refine o_nil ?_
  refine thn_n ?_
  refine w_seq ?_
  refine w_seq ?_
  refine w_region ?_
  refine o_call (l_awake24) X.b34  rfl .nil rfl ?_
  rintro _ _ ⟨rfl, rfl⟩
  refine o_val (v_to (v := .bool false) (v_not rfl) rfl) rfl ?_
  refine o_nil ?_
  refine thn_n ?_
  refine w_condF rfl ?_
  refine w_skip ?_
  refine thn_n ?_
  rcases (Classical.em (16 < K.length)) with hlen | hlen
  ·
    refine w_seq ?_
    refine w_seq ?_
    refine w_region ?_
    refine o_val (v_move rfl) rfl ?_
    refine o_val (v_len (ty' := 0) Tryz.underlying28 rfl) rfl ?_
    refine o_val (v_T (v_gtr rfl rfl) (by omega)) rfl ?_
    refine o_nil ?_
    refine thn_n ?_
    refine w_condT rfl ?_
    refine w_seq ?_
    refine w_region ?_
    refine o_val (v_assign rfl) rfl ?_
    refine o_nil ?_
    refine thn_n ?_
    refine w_ret ?_
    refine (thn_r ?_)
    exact ret_ok (G := []) (res1 rfl) ⟨rfl, rfl⟩ (sub .nil (by repeat first | exact .refl | apply Drop.skip))
  ·
    refine w_seq ?_
    refine w_seq ?_
    refine w_region ?_
    refine o_val (v_move rfl) rfl ?_
    refine o_val (v_len (ty' := 0) Tryz.underlying28 rfl) rfl ?_
    refine o_val (v_F (v_gtr rfl rfl) (by omega)) rfl ?_
    refine o_nil ?_
    refine thn_n ?_
    refine w_condF rfl ?_
    refine w_skip ?_
    refine thn_n ?_
    refine w_seq ?_
    refine w_region ?_
    refine o_call (s_new) X.b35  rfl .nil rfl ?_
    rintro _ _ ⟨b18, rfl, rfl⟩
    refine o_val (v_assign rfl) rfl ?_
    refine o_nil ?_
    refine thn_n ?_
    refine w_seq ?_
    refine w_seq ?_
    refine w_region ?_
    refine o_val (v_move rfl) rfl ?_
    refine o_val (v_to (v := .bool false) (v_eqnil Tryz.underlying62 rfl rfl) rfl) rfl ?_
    refine o_nil ?_
    refine thn_n ?_
    refine w_condF rfl ?_
    refine w_skip ?_
    refine thn_n ?_
    refine w_seq ?_
    refine w_seq ?_
    refine w_region ?_
    refine o_val (v_assign rfl) rfl ?_
    refine o_nil ?_
    refine thn_n ?_
    refine w_block ?_
    refine w_add0 (JL []) (jl_nil w0) ?_
    refine w_loop2 (fun (k : Nat) (l : List It) => [(0, .slice p K.length c), (1, .int .u8 now), (5, .pointer (some ⟨b18, 0, none⟩)), (6, .int .i64 (k : Int))]) (fun (k : Nat) (l : List It) => IsStore b18 l (k : Int) :: JL l :: R :: TB f :: F) (fun (k : Nat) (l : List It) => k ≤ K.length ∧ l.length = k ∧ Ini K l) (fun (k : Nat) (l : List It) => K.length - k) (i2 (0) ([]) ?_ (.cons rfl (.cons rfl (.cons rfl (.cons rfl (.nil _))))) (sub (.cons (by repeat first | exact .head | apply Rem.tail) (.cons (by repeat first | exact .head | apply Rem.tail) (.cons (by repeat first | exact .head | apply Rem.tail) (.cons (by repeat first | exact .head | apply Rem.tail) .nil)))) (by repeat first | exact .refl | apply Drop.skip))) ?_
    ·
      exact ⟨Nat.zero_le _, rfl, Ini.nil K⟩
    intro k l
    rintro ⟨hk, hlk0, hI⟩
    refine w_seq ?_
    refine w_seq ?_
    refine w_region ?_
    refine o_val (v_move rfl) rfl ?_
    refine o_val (v_move rfl) rfl ?_
    refine o_val (v_len (ty' := 0) Tryz.underlying28 rfl) rfl ?_
    refine o_val (v_lss rfl rfl) rfl ?_
    refine o_nil ?_
    refine thn_n ?_
    first | refine w_condD rfl (fun h31 => ?_) (fun h31 => ?_) | refine w_cond rfl (fun h31 => ?_) (fun h31 => ?_)
    ·
      refine w_skip ?_
      refine thn_n ?_
      refine w_seq ?_
      refine w_block ?_
      refine w_seq ?_
      have hk2 : k < K.length := by omega
      have hkB := gB hB k
      refine w_region ?_
      refine o_call (c_file) X.b36  rfl .nil rfl ?_
      rintro v1 _ rfl
      refine o_call (c_job v1) X.b32  rfl (.cons (by repeat first | exact .head | apply Rem.tail) .nil) rfl ?_
      rintro _ _ ⟨aj, rfl, rfl⟩
      refine o_val (v_move rfl) rfl ?_
      refine o_val (v_extract rfl rfl) rfl ?_
      refine o_val (v_extract rfl rfl) rfl ?_
      refine o_val (v_assign rfl) rfl ?_
      refine o_val (v_assign rfl) rfl ?_
      refine o_nil ?_
      refine thn_n ?_
      refine w_seq ?_
      refine w_region ?_
      refine o_val (v_move rfl) rfl ?_
      refine o_val (v_move rfl) rfl ?_
      refine o_val (v_move rfl) rfl ?_
      refine o_val (v_move rfl) rfl ?_
      refine o_val (r_index (c := (U5)) X.sl28 rfl rfl (by first | exact own mm0 | exact own mm1 | exact own mm2 | exact own mm3 | exact own mm4 | exact own mm5 | exact own mm6 | exact own mm7 | exact own mm8 | exact own mm9 | exact own mm10 | exact own mm11 | exact rdH hR mm0 | exact rdH hR mm1 | exact rdH hR mm2 | exact rdH hR mm3 | exact rdH hR mm4 | exact rdH hR mm5 | exact rdH hR mm6 | exact rdH hR mm7 | exact rdH hR mm8 | exact rdH hR mm9 | exact rdH hR mm10 | exact rdH hR mm11) (by omega) (by omega)) rfl ?_
      refine o_val (r_load (c := (U5)) X.s5 rfl (by first | exact own mm0 | exact own mm1 | exact own mm2 | exact own mm3 | exact own mm4 | exact own mm5 | exact own mm6 | exact own mm7 | exact own mm8 | exact own mm9 | exact own mm10 | exact own mm11 | exact rdH hR mm0 | exact rdH hR mm1 | exact rdH hR mm2 | exact rdH hR mm3 | exact rdH hR mm4 | exact rdH hR mm5 | exact rdH hR mm6 | exact rdH hR mm7 | exact rdH hR mm8 | exact rdH hR mm9 | exact rdH hR mm10 | exact rdH hR mm11) (by omega) (by omega) rfl rfl) rfl ?_
      refine o_val (v_shr (r := (U5.g K (k : Int)) / 16) rfl rfl (by decide) shr4) rfl ?_
      refine o_val (v_conv X.u5 Tryz.underlying3 rfl (wrapI (by omega) (by omega))) rfl ?_
      refine o_val (v_add rfl rfl (wrapI (by omega) (by omega))) rfl ?_
      refine o_call (s_add b18 aj 1 (1 + (U5.g K (k : Int)) / 16) l (k : Int) (by omega) (by omega) (by omega)) X.b37  rfl (.cons (by repeat first | exact .head | apply Rem.tail) .nil) rfl ?_
      rintro _ _ ⟨rfl, rfl⟩
      refine o_val (v_move rfl) rfl ?_
      refine o_val (v_extract rfl rfl) rfl ?_
      refine o_val (v_extract rfl rfl) rfl ?_
      refine o_val (v_assign rfl) rfl ?_
      refine o_val (v_assign rfl) rfl ?_
      refine o_nil ?_
      refine thn_n ?_
      refine w_seq ?_
      refine w_sub (fold' (.cons (by repeat first | exact .head | apply Rem.tail) (.cons (by repeat first | exact .head | apply Rem.tail) .nil)) dd0 (fun w0 h hh => jl_snoc (h := (k : Int) + 1) (c := 1) (d := 1 + (U5.g K (k : Int)) / 16) hh)) ?_
      refine w_region ?_
      refine o_val (v_move rfl) rfl ?_
      refine o_val (v_F (v_neq rfl rfl) (by decide)) rfl ?_
      refine o_val (v_move rfl) rfl ?_
      refine o_want rfl ?_
      refine o_val (v_move rfl) rfl ?_
      refine o_want rfl ?_
      refine o_val (v_to (v := .bool false) (v_not rfl) rfl) rfl ?_
      refine o_val (v_pickF rfl rfl) rfl ?_
      refine o_val (v_move rfl) rfl ?_
      refine o_want rfl ?_
      refine o_val (v_move rfl) rfl ?_
      refine o_want rfl ?_
      refine o_val (v_move rfl) rfl ?_
      refine o_want rfl ?_
      refine o_val (v_add rfl rfl (wrapI (by omega) (by omega))) rfl ?_
      refine o_want rfl ?_
      refine o_val (v_F (v_neq rfl rfl) (fun h => h rfl)) rfl ?_
      refine o_val (v_pickF rfl rfl) rfl ?_
      refine o_nil ?_
      refine thn_n ?_
      refine w_condF rfl ?_
      refine w_skip ?_
      refine blk_n ?_
      refine thn_n ?_
      refine w_region ?_
      refine o_val (v_move rfl) rfl ?_
      refine o_val (v_add rfl rfl (wrapI (by omega) (by omega))) rfl ?_
      refine o_val (v_assign rfl) rfl ?_
      refine o_nil ?_
      rw [show (k : Int) + 1 = ((k + 1 : Nat) : Int) from rfl]
      refine j2 (k + 1) (_) ?_ (.cons rfl (.cons rfl (.cons rfl (.cons rfl (.nil _))))) (sub (.cons (by repeat first | exact .head | apply Rem.tail) (.cons (by repeat first | exact .head | apply Rem.tail) (.cons (by repeat first | exact .head | apply Rem.tail) (.cons (by repeat first | exact .head | apply Rem.tail) .nil)))) (by repeat first | exact .refl | apply Drop.skip))
      exact ⟨⟨by omega, by rw [List.length_append, hlk0]; rfl, hI.snoc (by rw [hlk0]; exact ⟨rfl, ⟨aj, rfl⟩, rfl, rfl, rfl, rfl⟩)⟩, by omega⟩
    ·
      refine w_exit ?_
      refine thn_e ?_
      refine thn_e ?_
      refine blk_x ?_
      refine thn_n ?_
      refine w_seq ?_
      obtain rfl : k = K.length := by omega
      have hmA : l = (StoreP.mid K l K.length) := by rw [← hlk0]; exact (mid_all K l).symm
      have hc0 : StoreP.cnt K now (l.drop K.length) = 0 := by rw [← hlk0, List.drop_length]; unfold StoreP.cnt; rfl
      have hc1 : (0 : Int) = StoreP.fst K now (l.drop K.length) := by rw [← hlk0, List.drop_length]; unfold StoreP.fst; rfl
      rw [show IsStore b18 l (K.length : Int) = IsStore b18 (StoreP.mid K l K.length) (K.length : Int) from congrArg (fun m => IsStore b18 m (K.length : Int)) hmA, show JL l = JL (StoreP.mid K l K.length) from congrArg JL hmA]
      refine w_region ?_
      refine o_val (v_assign rfl) rfl ?_
      refine o_nil ?_
      refine thn_n ?_
      refine w_seq ?_
      refine w_seq ?_
      refine w_region ?_
      refine o_val (v_move rfl) rfl ?_
      refine o_val (v_len (ty' := 0) Tryz.underlying28 rfl) rfl ?_
      refine o_val (v_sub rfl rfl (wrapI (by omega) (by omega))) rfl ?_
      refine o_val (v_assign rfl) rfl ?_
      refine o_nil ?_
      refine thn_n ?_
      refine w_block ?_
      refine w_loop2 (fun (k : Nat) (i : Int) => [(0, .slice p K.length c), (1, .int .u8 now), (5, .pointer (some ⟨b18, 0, none⟩)), (11, .int .i64 0), (12, .int .i64 i)]) (fun (k : Nat) (i : Int) => IsStore b18 (StoreP.mid K l k) (K.length : Int) :: JL (StoreP.mid K l k) :: R :: TB f :: F) (fun (k : Nat) (i : Int) => k ≤ K.length ∧ i = (k : Int) - 1) (fun (k : Nat) (i : Int) => k) (i2 (K.length) (((K.length : Int) - 1)) ?_ (.cons rfl (.cons rfl (.cons rfl (.cons rfl (.cons rfl (.nil _)))))) (sub (.cons (by repeat first | exact .head | apply Rem.tail) (.cons (by repeat first | exact .head | apply Rem.tail) (.cons (by repeat first | exact .head | apply Rem.tail) (.cons (by repeat first | exact .head | apply Rem.tail) .nil)))) (by repeat first | exact .refl | apply Drop.skip))) ?_
      ·
        exact ⟨Nat.le_refl _, rfl⟩
      intro k i
      rintro ⟨hk, hik⟩
      refine w_seq ?_
      refine w_seq ?_
      refine w_region ?_
      refine o_val (v_move rfl) rfl ?_
      refine o_val (v_geq rfl rfl) rfl ?_
      refine o_nil ?_
      refine thn_n ?_
      first | refine w_condD rfl (fun h68 => ?_) (fun h68 => ?_) | refine w_cond rfl (fun h68 => ?_) (fun h68 => ?_)
      ·
        refine w_skip ?_
        refine thn_n ?_
        refine w_seq ?_
        refine w_block ?_
        refine w_seq ?_
        obtain ⟨j, rfl⟩ : ∃ j, k = j + 1 := ⟨k - 1, by omega⟩
        obtain rfl : i = (j : Int) := by omega
        have hj : j < l.length := by omega
        have hjB := gB hB j
        have hjK : j < K.length := by omega
        have hml : (StoreP.mid K l (j + 1)).length ≤ 1000 := by have := mid_len K l (j + 1); omega
        have hmj := mid_lt (K := K) hj
        have hkd := hI.kd hj
        have hi1 := hI j hj
        have hmg : (StoreP.mid K l (j + 1))[j] = l[j] := mid_get (Nat.lt_succ_self j) hj hmj
        have hov : ov (StoreP.mid K l (j + 1))[j] = false := by rw [hmg]; unfold ov; rw [hi1.late, hi1.can, hi1.dn]; rfl
        have hstep := c_stepL (StoreP.mid K l (j + 1)) j hmj (by rw [hmg]; exact hi1.dn) f hf
        rw [hmg] at hstep
        obtain ⟨a, ha⟩ := hi1.j
        obtain ⟨x, hx⟩ : ∃ x, l[j] = x := ⟨_, rfl⟩
        have hxj : x.j = some a := hx ▸ ha
        rw [hx] at hstep
        refine w_region ?_
        refine o_val (v_move rfl) rfl ?_
        refine o_val (v_move rfl) rfl ?_
        refine o_val (r_index (c := (U5)) X.sl28 rfl rfl (by first | exact own mm0 | exact own mm1 | exact own mm2 | exact own mm3 | exact own mm4 | exact own mm5 | exact own mm6 | exact own mm7 | exact own mm8 | exact own mm9 | exact own mm10 | exact own mm11 | exact rdH hR mm0 | exact rdH hR mm1 | exact rdH hR mm2 | exact rdH hR mm3 | exact rdH hR mm4 | exact rdH hR mm5 | exact rdH hR mm6 | exact rdH hR mm7 | exact rdH hR mm8 | exact rdH hR mm9 | exact rdH hR mm10 | exact rdH hR mm11) (by omega) (by omega)) rfl ?_
        refine o_val (r_load (c := (U5)) X.s5 rfl (by first | exact own mm0 | exact own mm1 | exact own mm2 | exact own mm3 | exact own mm4 | exact own mm5 | exact own mm6 | exact own mm7 | exact own mm8 | exact own mm9 | exact own mm10 | exact own mm11 | exact rdH hR mm0 | exact rdH hR mm1 | exact rdH hR mm2 | exact rdH hR mm3 | exact rdH hR mm4 | exact rdH hR mm5 | exact rdH hR mm6 | exact rdH hR mm7 | exact rdH hR mm8 | exact rdH hR mm9 | exact rdH hR mm10 | exact rdH hR mm11) (by omega) (by omega) rfl rfl) rfl ?_
        refine o_val (v_and (r := (U5.g K (j : Int)) % 4) rfl rfl (and3 hjB.1 hjB.2)) rfl ?_
        refine o_nil ?_
        refine thn_n ?_
        refine w_block ?_
        rcases (kd4 (U5.g K (j : Int))) with h0 | h1 | h2 | ⟨h3, n0, n1, n2⟩
        ·
          refine w_seq ?_
          refine w_region ?_
          refine o_val (v_T (v_eql rfl rfl) h0) rfl ?_
          refine o_val (v_assign rfl) rfl ?_
          refine o_nil ?_
          refine thn_n ?_
          refine w_condT rfl ?_
          refine w_region ?_
          refine o_val (v_move rfl) rfl ?_
          refine o_val (v_move rfl) rfl ?_
          refine o_val (v_add rfl rfl (wrapI (by omega) (by omega))) rfl ?_
          refine o_call (s_drop b18 ((j : Int) + 1) (StoreP.mid K l (j + 1)) (K.length : Int) hml j hmj (mid_idx hI hj)) X.b38  rfl (.cons (by repeat first | exact .head | apply Rem.tail) .nil) rfl ?_
          rintro _ _ ⟨rfl, rfl⟩
          refine o_nil ?_
          refine blk_n ?_
          refine blk_n ?_
          refine thn_n ?_
          refine w_sub (fold' (.cons (by repeat first | exact .head | apply Rem.tail) .nil) dd0 (fun w0 h hh => jl_out hmj hh)) ?_
          rw [mid_drop hj (hkd.trans h0)]
          refine w_region ?_
          refine o_val (v_move rfl) rfl ?_
          refine o_val (v_sub rfl rfl (wrapI (by omega) (by omega))) rfl ?_
          refine o_val (v_assign rfl) rfl ?_
          refine o_nil ?_
          refine j2 (j) (((j : Int) - 1)) ?_ (.cons rfl (.cons rfl (.cons rfl (.cons rfl (.cons rfl (.nil _)))))) (sub (.cons (by repeat first | exact .head | apply Rem.tail) (.cons (by repeat first | exact .head | apply Rem.tail) (.cons (by repeat first | exact .head | apply Rem.tail) (.cons (by repeat first | exact .head | apply Rem.tail) .nil)))) (by repeat first | exact .refl | apply Drop.skip))
          exact ⟨⟨by omega, rfl⟩, by omega⟩
        ·
          refine w_seq ?_
          refine w_region ?_
          refine o_val (v_F (v_eql rfl rfl) (by omega)) rfl ?_
          refine o_val (v_assign rfl) rfl ?_
          refine o_nil ?_
          refine thn_n ?_
          refine w_condF rfl ?_
          refine w_seq ?_
          refine w_region ?_
          refine o_val (v_T (v_eql rfl rfl) h1) rfl ?_
          refine o_val (v_assign rfl) rfl ?_
          refine o_nil ?_
          refine thn_n ?_
          refine w_condT rfl ?_
          refine w_region ?_
          refine o_val (v_move rfl) rfl ?_
          refine o_val (v_move rfl) rfl ?_
          refine o_val (v_add rfl rfl (wrapI (by omega) (by omega))) rfl ?_
          refine o_call (s_cancel b18 ((j : Int) + 1) (StoreP.mid K l (j + 1)) (K.length : Int) hml j hmj (mid_idx hI hj) hov) X.b39  rfl (.cons (by repeat first | exact .head | apply Rem.tail) (.cons (by repeat first | exact .head | apply Rem.tail) .nil)) rfl ?_
          rintro v0 _ rfl
          refine o_nil ?_
          refine blk_n ?_
          refine blk_n ?_
          refine thn_n ?_
          rw [hmg, mid_can hj (hkd.trans h1)]
          refine w_region ?_
          refine o_val (v_move rfl) rfl ?_
          refine o_val (v_sub rfl rfl (wrapI (by omega) (by omega))) rfl ?_
          refine o_val (v_assign rfl) rfl ?_
          refine o_nil ?_
          refine j2 (j) (((j : Int) - 1)) ?_ (.cons rfl (.cons rfl (.cons rfl (.cons rfl (.cons rfl (.nil _)))))) (sub (.cons (by repeat first | exact .head | apply Rem.tail) (.cons (by repeat first | exact .head | apply Rem.tail) (.cons (by repeat first | exact .head | apply Rem.tail) (.cons (by repeat first | exact .head | apply Rem.tail) .nil)))) (by repeat first | exact .refl | apply Drop.skip))
          exact ⟨⟨by omega, rfl⟩, by omega⟩
        ·
          refine w_seq ?_
          refine w_region ?_
          refine o_val (v_F (v_eql rfl rfl) (by omega)) rfl ?_
          refine o_val (v_assign rfl) rfl ?_
          refine o_nil ?_
          refine thn_n ?_
          refine w_condF rfl ?_
          refine w_seq ?_
          refine w_region ?_
          refine o_val (v_F (v_eql rfl rfl) (by omega)) rfl ?_
          refine o_val (v_assign rfl) rfl ?_
          refine o_nil ?_
          refine thn_n ?_
          refine w_condF rfl ?_
          refine w_seq ?_
          refine w_region ?_
          refine o_val (v_T (v_eql rfl rfl) h2) rfl ?_
          refine o_val (v_assign rfl) rfl ?_
          refine o_nil ?_
          refine thn_n ?_
          refine w_condT rfl ?_
          refine w_seq ?_
          refine w_region ?_
          refine o_val (v_move rfl) rfl ?_
          refine o_val (v_move rfl) rfl ?_
          refine o_val (v_add rfl rfl (wrapI (by omega) (by omega))) rfl ?_
          refine o_call (s_get b18 ((j : Int) + 1) (StoreP.mid K l (j + 1)) (K.length : Int) hml j hmj (mid_idx hI hj)) X.b40  rfl (.cons (by repeat first | exact .head | apply Rem.tail) .nil) rfl ?_
          rintro _ _ ⟨rfl, rfl⟩
          rw [hmg, hx]
          refine o_val (v_move rfl) rfl ?_
          refine o_val (v_extract rfl rfl) rfl ?_
          refine o_val (v_extract rfl rfl) rfl ?_
          refine o_alloc X.z68 rfl ?_
          intro b13
          refine o_eff (v_storeAgg X.a68 rfl rfl (us := [_, _, _, _, _, _]) rfl rfl (by repeat first | exact .head | apply Rep.tail) (by exact Nat.le_of_ble_eq_true rfl) rfl) ?_
          refine o_val (v_assign rfl) rfl ?_
          refine o_nil ?_
          refine thn_n ?_
          refine w_seq ?_
          refine w_seq ?_
          refine w_region ?_
          refine o_val (v_move rfl) rfl ?_
          refine o_val (v_to (v := .bool false) (v_not rfl) rfl) rfl ?_
          refine o_val (v_move rfl) rfl ?_
          refine o_want rfl ?_
          refine o_val (v_fieldAddr X.f68_3 rfl) rfl ?_
          refine o_want rfl ?_
          refine o_val (v_load X.s58 rfl (by repeat first | exact .head _ | apply List.Mem.tail) rfl) rfl ?_
          refine o_want rfl ?_
          refine o_val (v_to (v := .bool false) (v_eqnil Tryz.underlying58 rfl rfl) (by rw [hxj]; rfl)) rfl ?_
          refine o_val (v_pickF rfl rfl) rfl ?_
          refine o_nil ?_
          refine thn_n ?_
          refine w_condF rfl ?_
          refine w_skip ?_
          refine thn_n ?_
          refine w_region ?_
          refine o_val (v_fieldAddr X.f68_3 rfl) rfl ?_
          refine o_val (v_load X.s58 rfl (by repeat first | exact .head _ | apply List.Mem.tail) rfl) rfl ?_
          refine o_call (hstep) X.b41  rfl (.cons (by repeat first | exact .head | apply Rem.tail) (.cons (by repeat first | exact .head | apply Rem.tail) .nil)) rfl ?_
          rintro _ _ ⟨rfl, rfl⟩
          refine o_nil ?_
          refine blk_n ?_
          refine blk_n ?_
          refine thn_n ?_
          refine w_sub (fold' (.cons (by repeat first | exact .head | apply Rem.tail) .nil) dd0 (fun w0 h hh => st_dn hj (hkd.trans h2) hmj hmg hh)) ?_
          rw [← hx, mid_dn hj (hkd.trans h2)]
          refine w_region ?_
          refine o_val (v_move rfl) rfl ?_
          refine o_val (v_sub rfl rfl (wrapI (by omega) (by omega))) rfl ?_
          refine o_val (v_assign rfl) rfl ?_
          refine o_nil ?_
          refine j2 (j) (((j : Int) - 1)) ?_ (.cons rfl (.cons rfl (.cons rfl (.cons rfl (.cons rfl (.nil _)))))) (sub (.cons (by repeat first | exact .head | apply Rem.tail) (.cons (by repeat first | exact .head | apply Rem.tail) (.cons (by repeat first | exact .head | apply Rem.tail) (.cons (by repeat first | exact .head | apply Rem.tail) .nil)))) (by repeat first | exact .refl | apply Drop.skip))
          exact ⟨⟨by omega, rfl⟩, by omega⟩
        ·
          refine w_seq ?_
          refine w_region ?_
          refine o_val (v_F (v_eql rfl rfl) n0) rfl ?_
          refine o_val (v_assign rfl) rfl ?_
          refine o_nil ?_
          refine thn_n ?_
          refine w_condF rfl ?_
          refine w_seq ?_
          refine w_region ?_
          refine o_val (v_F (v_eql rfl rfl) n1) rfl ?_
          refine o_val (v_assign rfl) rfl ?_
          refine o_nil ?_
          refine thn_n ?_
          refine w_condF rfl ?_
          refine w_seq ?_
          refine w_region ?_
          refine o_val (v_F (v_eql rfl rfl) n2) rfl ?_
          refine o_val (v_assign rfl) rfl ?_
          refine o_nil ?_
          refine thn_n ?_
          refine w_condF rfl ?_
          refine w_skip ?_
          refine blk_n ?_
          refine blk_n ?_
          refine thn_n ?_
          rw [mid_is hj (fun e => n0 (hkd.symm.trans e)) (fun e => n1 (hkd.symm.trans e)) (fun e => n2 (hkd.symm.trans e))]
          refine w_region ?_
          refine o_val (v_move rfl) rfl ?_
          refine o_val (v_sub rfl rfl (wrapI (by omega) (by omega))) rfl ?_
          refine o_val (v_assign rfl) rfl ?_
          refine o_nil ?_
          refine j2 (j) (((j : Int) - 1)) ?_ (.cons rfl (.cons rfl (.cons rfl (.cons rfl (.cons rfl (.nil _)))))) (sub (.cons (by repeat first | exact .head | apply Rem.tail) (.cons (by repeat first | exact .head | apply Rem.tail) (.cons (by repeat first | exact .head | apply Rem.tail) (.cons (by repeat first | exact .head | apply Rem.tail) .nil)))) (by repeat first | exact .refl | apply Drop.skip))
          exact ⟨⟨by omega, rfl⟩, by omega⟩
      ·
        refine w_exit ?_
        refine thn_e ?_
        refine thn_e ?_
        refine blk_x ?_
        refine thn_n ?_
        refine w_seq ?_
        obtain rfl : k = 0 := by omega
        have hm0 : (StoreP.mid K l 0).length ≤ 1000 := by have := mid_len K l 0; omega
        refine w_region ?_
        refine o_val (v_move rfl) rfl ?_
        refine o_val (v_move rfl) rfl ?_
        refine o_val (v_conv X.u5 Tryz.underlying3 rfl (wrapI (by omega) (by omega))) rfl ?_
        refine o_call (s_tick b18 now (StoreP.mid K l 0) (K.length : Int) hm0) X.b42  rfl (.cons (by repeat first | exact .head | apply Rem.tail) (.cons (by repeat first | exact .head | apply Rem.tail) .nil)) rfl ?_
        rintro _ _ ⟨pt, ct, rfl, rfl⟩
        refine o_val (v_assign rfl) rfl ?_
        refine o_nil ?_
        refine thn_n ?_
        refine w_seq ?_
        refine w_region ?_
        refine o_val (v_assign rfl) rfl ?_
        refine o_nil ?_
        refine thn_n ?_
        refine w_seq ?_
        refine w_seq ?_
        refine w_region ?_
        refine o_val (v_move rfl) rfl ?_
        refine o_val (v_len (ty' := 0) Tryz.underlying28 rfl) rfl ?_
        refine o_val (v_sub rfl rfl (wrapI (by omega) (by omega))) rfl ?_
        refine o_val (v_assign rfl) rfl ?_
        refine o_nil ?_
        refine thn_n ?_
        refine w_block ?_
        rw [show ((16 : Nat), Value.int .i64 0) = (16, .int .i64 ((StoreP.cnt K now (l.drop K.length) : Nat) : Int)) from by rw [hc0]; rfl, show ((11 : Nat), Value.int .i64 0) = (11, .int .i64 (StoreP.fst K now (l.drop K.length))) from by rw [hc1]]
        refine w_loop2 (fun (k : Nat) (i : Int) => [(0, .slice p K.length c), (1, .int .u8 now), (5, .pointer (some ⟨b18, 0, none⟩)), (11, .int .i64 (StoreP.fst K now (l.drop k))), (15, .slice pt ((StoreP.mid K l 0).filter (StoreP.due now)).length ct), (16, .int .i64 ((StoreP.cnt K now (l.drop k) : Nat) : Int)), (17, .int .i64 i)]) (fun (k : Nat) (i : Int) => IsStore b18 ((StoreP.mid K l 0).map (StoreP.mark now)) (K.length : Int) :: JL ((StoreP.mid K l 0).map (StoreP.mark now)) :: R :: TB f :: F) (fun (k : Nat) (i : Int) => k ≤ K.length ∧ i = (k : Int) - 1) (fun (k : Nat) (i : Int) => k) (i2 (K.length) (((K.length : Int) - 1)) ?_ (.cons rfl (.cons rfl (.cons rfl (.cons rfl (.cons rfl (.cons rfl (.cons rfl (.nil _)))))))) (sub (.cons (by repeat first | exact .head | apply Rem.tail) (.cons (by repeat first | exact .head | apply Rem.tail) (.cons (by repeat first | exact .head | apply Rem.tail) (.cons (by repeat first | exact .head | apply Rem.tail) .nil)))) (by repeat first | exact .refl | apply Drop.skip))) ?_
        ·
          exact ⟨Nat.le_refl _, rfl⟩
        intro k i
        rintro ⟨hk, hik⟩
        refine w_seq ?_
        refine w_seq ?_
        refine w_region ?_
        refine o_val (v_move rfl) rfl ?_
        refine o_val (v_geq rfl rfl) rfl ?_
        refine o_nil ?_
        refine thn_n ?_
        first | refine w_condD rfl (fun h115 => ?_) (fun h115 => ?_) | refine w_cond rfl (fun h115 => ?_) (fun h115 => ?_)
        ·
          refine w_skip ?_
          refine thn_n ?_
          refine w_seq ?_
          refine w_block ?_
          rcases (late3k hI now (k := k) (i := i) (by omega) hik (by omega)) with ⟨j, rfl, rfl, hj, h3, e1, e2⟩ | ⟨j, rfl, rfl, hj, h3, h4, e1, e2⟩ | ⟨j, rfl, rfl, hj, h3, h4, e1, e2⟩
          ·
            refine w_seq ?_
            have hjB := gB hB j
            have hjK : j < K.length := by omega
            have hcl := cnt_le K now (l.drop (j + 1))
            rw [List.length_drop] at hcl
            refine w_region ?_
            refine o_val (v_move rfl) rfl ?_
            refine o_val (v_move rfl) rfl ?_
            refine o_val (r_index (c := (U5)) X.sl28 rfl rfl (by first | exact own mm0 | exact own mm1 | exact own mm2 | exact own mm3 | exact own mm4 | exact own mm5 | exact own mm6 | exact own mm7 | exact own mm8 | exact own mm9 | exact own mm10 | exact own mm11 | exact rdH hR mm0 | exact rdH hR mm1 | exact rdH hR mm2 | exact rdH hR mm3 | exact rdH hR mm4 | exact rdH hR mm5 | exact rdH hR mm6 | exact rdH hR mm7 | exact rdH hR mm8 | exact rdH hR mm9 | exact rdH hR mm10 | exact rdH hR mm11) (by omega) (by omega)) rfl ?_
            refine o_val (r_load (c := (U5)) X.s5 rfl (by first | exact own mm0 | exact own mm1 | exact own mm2 | exact own mm3 | exact own mm4 | exact own mm5 | exact own mm6 | exact own mm7 | exact own mm8 | exact own mm9 | exact own mm10 | exact own mm11 | exact rdH hR mm0 | exact rdH hR mm1 | exact rdH hR mm2 | exact rdH hR mm3 | exact rdH hR mm4 | exact rdH hR mm5 | exact rdH hR mm6 | exact rdH hR mm7 | exact rdH hR mm8 | exact rdH hR mm9 | exact rdH hR mm10 | exact rdH hR mm11) (by omega) (by omega) rfl rfl) rfl ?_
            refine o_val (v_and (r := (U5.g K (j : Int)) % 4) rfl rfl (and3 hjB.1 hjB.2)) rfl ?_
            refine o_val (v_F (v_eql rfl rfl) h3) rfl ?_
            refine o_nil ?_
            refine thn_n ?_
            refine w_condF rfl ?_
            refine w_skip ?_
            refine blk_n ?_
            refine thn_n ?_
            rw [e1, e2]
            refine w_region ?_
            refine o_val (v_move rfl) rfl ?_
            refine o_val (v_sub rfl rfl (wrapI (by omega) (by omega))) rfl ?_
            refine o_val (v_assign rfl) rfl ?_
            refine o_nil ?_
            refine j2 (j) (((j : Int) - 1)) ?_ (.cons rfl (.cons rfl (.cons rfl (.cons rfl (.cons rfl (.cons rfl (.cons rfl (.nil _)))))))) (sub (.cons (by repeat first | exact .head | apply Rem.tail) (.cons (by repeat first | exact .head | apply Rem.tail) (.cons (by repeat first | exact .head | apply Rem.tail) (.cons (by repeat first | exact .head | apply Rem.tail) .nil)))) (by repeat first | exact .refl | apply Drop.skip))
            exact ⟨⟨by omega, rfl⟩, by omega⟩
          ·
            refine w_seq ?_
            have hjB := gB hB j
            have hjK : j < K.length := by omega
            have hcl := cnt_le K now (l.drop (j + 1))
            rw [List.length_drop] at hcl
            refine w_region ?_
            refine o_val (v_move rfl) rfl ?_
            refine o_val (v_move rfl) rfl ?_
            refine o_val (r_index (c := (U5)) X.sl28 rfl rfl (by first | exact own mm0 | exact own mm1 | exact own mm2 | exact own mm3 | exact own mm4 | exact own mm5 | exact own mm6 | exact own mm7 | exact own mm8 | exact own mm9 | exact own mm10 | exact own mm11 | exact rdH hR mm0 | exact rdH hR mm1 | exact rdH hR mm2 | exact rdH hR mm3 | exact rdH hR mm4 | exact rdH hR mm5 | exact rdH hR mm6 | exact rdH hR mm7 | exact rdH hR mm8 | exact rdH hR mm9 | exact rdH hR mm10 | exact rdH hR mm11) (by omega) (by omega)) rfl ?_
            refine o_val (r_load (c := (U5)) X.s5 rfl (by first | exact own mm0 | exact own mm1 | exact own mm2 | exact own mm3 | exact own mm4 | exact own mm5 | exact own mm6 | exact own mm7 | exact own mm8 | exact own mm9 | exact own mm10 | exact own mm11 | exact rdH hR mm0 | exact rdH hR mm1 | exact rdH hR mm2 | exact rdH hR mm3 | exact rdH hR mm4 | exact rdH hR mm5 | exact rdH hR mm6 | exact rdH hR mm7 | exact rdH hR mm8 | exact rdH hR mm9 | exact rdH hR mm10 | exact rdH hR mm11) (by omega) (by omega) rfl rfl) rfl ?_
            refine o_val (v_and (r := (U5.g K (j : Int)) % 4) rfl rfl (and3 hjB.1 hjB.2)) rfl ?_
            refine o_val (v_T (v_eql rfl rfl) h3) rfl ?_
            refine o_nil ?_
            refine thn_n ?_
            refine w_condT rfl ?_
            refine w_seq ?_
            refine w_region ?_
            refine o_val (v_move rfl) rfl ?_
            refine o_val (v_move rfl) rfl ?_
            refine o_val (r_index (c := (U5)) X.sl28 rfl rfl (by first | exact own mm0 | exact own mm1 | exact own mm2 | exact own mm3 | exact own mm4 | exact own mm5 | exact own mm6 | exact own mm7 | exact own mm8 | exact own mm9 | exact own mm10 | exact own mm11 | exact rdH hR mm0 | exact rdH hR mm1 | exact rdH hR mm2 | exact rdH hR mm3 | exact rdH hR mm4 | exact rdH hR mm5 | exact rdH hR mm6 | exact rdH hR mm7 | exact rdH hR mm8 | exact rdH hR mm9 | exact rdH hR mm10 | exact rdH hR mm11) (by omega) (by omega)) rfl ?_
            refine o_val (r_load (c := (U5)) X.s5 rfl (by first | exact own mm0 | exact own mm1 | exact own mm2 | exact own mm3 | exact own mm4 | exact own mm5 | exact own mm6 | exact own mm7 | exact own mm8 | exact own mm9 | exact own mm10 | exact own mm11 | exact rdH hR mm0 | exact rdH hR mm1 | exact rdH hR mm2 | exact rdH hR mm3 | exact rdH hR mm4 | exact rdH hR mm5 | exact rdH hR mm6 | exact rdH hR mm7 | exact rdH hR mm8 | exact rdH hR mm9 | exact rdH hR mm10 | exact rdH hR mm11) (by omega) (by omega) rfl rfl) rfl ?_
            refine o_val (v_shr (r := (U5.g K (j : Int)) / 16) rfl rfl (by decide) shr4) rfl ?_
            refine o_val (v_conv X.u5 Tryz.underlying3 rfl (wrapI (by omega) (by omega))) rfl ?_
            refine o_val (v_add rfl rfl (wrapI (by omega) (by omega))) rfl ?_
            refine o_val (v_move rfl) rfl ?_
            refine o_val (v_conv X.u5 Tryz.underlying3 rfl (wrapI (by omega) (by omega))) rfl ?_
            refine o_val (v_T (v_leq rfl rfl) h4) rfl ?_
            refine o_nil ?_
            refine thn_n ?_
            refine w_condT rfl ?_
            refine w_region ?_
            refine o_val (v_move rfl) rfl ?_
            refine o_val (v_add rfl rfl (wrapI (by omega) (by omega))) rfl ?_
            refine o_val (v_assign rfl) rfl ?_
            refine o_nil ?_
            refine blk_n ?_
            refine thn_n ?_
            rw [show ((StoreP.cnt K now (l.drop (j + 1)) : Nat) : Int) + 1 = ((StoreP.cnt K now (l.drop j) : Nat) : Int) from by rw [← e1]; rfl, e2]
            refine w_region ?_
            refine o_val (v_move rfl) rfl ?_
            refine o_val (v_sub rfl rfl (wrapI (by omega) (by omega))) rfl ?_
            refine o_val (v_assign rfl) rfl ?_
            refine o_nil ?_
            refine j2 (j) (((j : Int) - 1)) ?_ (.cons rfl (.cons rfl (.cons rfl (.cons rfl (.cons rfl (.cons rfl (.cons rfl (.nil _)))))))) (sub (.cons (by repeat first | exact .head | apply Rem.tail) (.cons (by repeat first | exact .head | apply Rem.tail) (.cons (by repeat first | exact .head | apply Rem.tail) (.cons (by repeat first | exact .head | apply Rem.tail) .nil)))) (by repeat first | exact .refl | apply Drop.skip))
            exact ⟨⟨by omega, rfl⟩, by omega⟩
          ·
            refine w_seq ?_
            have hjB := gB hB j
            have hjK : j < K.length := by omega
            have hcl := cnt_le K now (l.drop (j + 1))
            rw [List.length_drop] at hcl
            refine w_region ?_
            refine o_val (v_move rfl) rfl ?_
            refine o_val (v_move rfl) rfl ?_
            refine o_val (r_index (c := (U5)) X.sl28 rfl rfl (by first | exact own mm0 | exact own mm1 | exact own mm2 | exact own mm3 | exact own mm4 | exact own mm5 | exact own mm6 | exact own mm7 | exact own mm8 | exact own mm9 | exact own mm10 | exact own mm11 | exact rdH hR mm0 | exact rdH hR mm1 | exact rdH hR mm2 | exact rdH hR mm3 | exact rdH hR mm4 | exact rdH hR mm5 | exact rdH hR mm6 | exact rdH hR mm7 | exact rdH hR mm8 | exact rdH hR mm9 | exact rdH hR mm10 | exact rdH hR mm11) (by omega) (by omega)) rfl ?_
            refine o_val (r_load (c := (U5)) X.s5 rfl (by first | exact own mm0 | exact own mm1 | exact own mm2 | exact own mm3 | exact own mm4 | exact own mm5 | exact own mm6 | exact own mm7 | exact own mm8 | exact own mm9 | exact own mm10 | exact own mm11 | exact rdH hR mm0 | exact rdH hR mm1 | exact rdH hR mm2 | exact rdH hR mm3 | exact rdH hR mm4 | exact rdH hR mm5 | exact rdH hR mm6 | exact rdH hR mm7 | exact rdH hR mm8 | exact rdH hR mm9 | exact rdH hR mm10 | exact rdH hR mm11) (by omega) (by omega) rfl rfl) rfl ?_
            refine o_val (v_and (r := (U5.g K (j : Int)) % 4) rfl rfl (and3 hjB.1 hjB.2)) rfl ?_
            refine o_val (v_T (v_eql rfl rfl) h3) rfl ?_
            refine o_nil ?_
            refine thn_n ?_
            refine w_condT rfl ?_
            refine w_seq ?_
            refine w_region ?_
            refine o_val (v_move rfl) rfl ?_
            refine o_val (v_move rfl) rfl ?_
            refine o_val (r_index (c := (U5)) X.sl28 rfl rfl (by first | exact own mm0 | exact own mm1 | exact own mm2 | exact own mm3 | exact own mm4 | exact own mm5 | exact own mm6 | exact own mm7 | exact own mm8 | exact own mm9 | exact own mm10 | exact own mm11 | exact rdH hR mm0 | exact rdH hR mm1 | exact rdH hR mm2 | exact rdH hR mm3 | exact rdH hR mm4 | exact rdH hR mm5 | exact rdH hR mm6 | exact rdH hR mm7 | exact rdH hR mm8 | exact rdH hR mm9 | exact rdH hR mm10 | exact rdH hR mm11) (by omega) (by omega)) rfl ?_
            refine o_val (r_load (c := (U5)) X.s5 rfl (by first | exact own mm0 | exact own mm1 | exact own mm2 | exact own mm3 | exact own mm4 | exact own mm5 | exact own mm6 | exact own mm7 | exact own mm8 | exact own mm9 | exact own mm10 | exact own mm11 | exact rdH hR mm0 | exact rdH hR mm1 | exact rdH hR mm2 | exact rdH hR mm3 | exact rdH hR mm4 | exact rdH hR mm5 | exact rdH hR mm6 | exact rdH hR mm7 | exact rdH hR mm8 | exact rdH hR mm9 | exact rdH hR mm10 | exact rdH hR mm11) (by omega) (by omega) rfl rfl) rfl ?_
            refine o_val (v_shr (r := (U5.g K (j : Int)) / 16) rfl rfl (by decide) shr4) rfl ?_
            refine o_val (v_conv X.u5 Tryz.underlying3 rfl (wrapI (by omega) (by omega))) rfl ?_
            refine o_val (v_add rfl rfl (wrapI (by omega) (by omega))) rfl ?_
            refine o_val (v_move rfl) rfl ?_
            refine o_val (v_conv X.u5 Tryz.underlying3 rfl (wrapI (by omega) (by omega))) rfl ?_
            refine o_val (v_F (v_leq rfl rfl) h4) rfl ?_
            refine o_nil ?_
            refine thn_n ?_
            refine w_condF rfl ?_
            refine w_region ?_
            refine o_val (v_move rfl) rfl ?_
            refine o_val (v_add rfl rfl (wrapI (by omega) (by omega))) rfl ?_
            refine o_val (v_assign rfl) rfl ?_
            refine o_nil ?_
            refine blk_n ?_
            refine thn_n ?_
            rw [e1, e2]
            refine w_region ?_
            refine o_val (v_move rfl) rfl ?_
            refine o_val (v_sub rfl rfl (wrapI (by omega) (by omega))) rfl ?_
            refine o_val (v_assign rfl) rfl ?_
            refine o_nil ?_
            refine j2 (j) (((j : Int) - 1)) ?_ (.cons rfl (.cons rfl (.cons rfl (.cons rfl (.cons rfl (.cons rfl (.cons rfl (.nil _)))))))) (sub (.cons (by repeat first | exact .head | apply Rem.tail) (.cons (by repeat first | exact .head | apply Rem.tail) (.cons (by repeat first | exact .head | apply Rem.tail) (.cons (by repeat first | exact .head | apply Rem.tail) .nil)))) (by repeat first | exact .refl | apply Drop.skip))
            exact ⟨⟨by omega, rfl⟩, by omega⟩
        ·
          refine w_exit ?_
          refine thn_e ?_
          refine thn_e ?_
          refine blk_x ?_
          refine thn_n ?_
          rcases (first4 (fun x hx => (hB x hx).1) hI now (M := ((StoreP.mid K l 0).map (StoreP.mark now))) rfl) with ⟨i, hi, hov, hno, hhe, hpos⟩ | ⟨hno, hz⟩
          ·
            refine w_seq ?_
            obtain rfl : k = 0 := by omega
            rw [List.drop_zero]
            have hK0 : ∀ x ∈ K, 0 ≤ x := fun x hx => (hB x hx).1
            have hM1 : ((StoreP.mid K l 0).map (StoreP.mark now)).length ≤ 1000 := by rw [List.length_map]; exact hm0
            have hcq : ((((StoreP.mid K l 0).filter (StoreP.due now)).length : Nat) : Int) = ((StoreP.cnt K now l : Nat) : Int) := by rw [mid_zero, late_all hK0 now (hI.fresh hK0)]
            refine w_region ?_
            refine o_val (v_move rfl) rfl ?_
            refine o_call (s_first_yes b18 ((StoreP.mid K l 0).map (StoreP.mark now)) (K.length : Int) hM1 i hi hov hno) X.b43  rfl (.cons (by repeat first | exact .head | apply Rem.tail) (.cons (by repeat first | exact .head | apply Rem.tail) .nil)) rfl ?_
            rintro _ _ ⟨rfl, rfl⟩
            obtain ⟨y, hy⟩ : ∃ y, ((StoreP.mid K l 0).map (StoreP.mark now))[i] = y := ⟨_, rfl⟩
            rw [hy]
            refine o_val (v_move rfl) rfl ?_
            refine o_val (v_extract rfl rfl) rfl ?_
            refine o_val (v_extract rfl rfl) rfl ?_
            refine o_alloc X.z68 rfl ?_
            intro b18
            refine o_eff (v_storeAgg X.a68 rfl rfl (us := [_, _, _, _, _, _]) rfl rfl (by repeat first | exact .head | apply Rep.tail) (by exact Nat.le_of_ble_eq_true rfl) rfl) ?_
            refine o_val (v_assign rfl) rfl ?_
            refine o_nil ?_
            refine thn_n ?_
            refine w_seq ?_
            refine w_region ?_
            refine o_val (v_move rfl) rfl ?_
            refine o_val (v_len (ty' := 0) Tryz.underlying71 rfl) rfl ?_
            refine o_val (v_move rfl) rfl ?_
            refine o_val (v_T (v_eql rfl rfl) hcq) rfl ?_
            refine o_val (v_move rfl) rfl ?_
            refine o_want rfl ?_
            refine o_val (v_move rfl) rfl ?_
            refine o_want rfl ?_
            refine o_val (v_move rfl) rfl ?_
            refine o_want rfl ?_
            refine o_val (v_T (v_gtr rfl rfl) hpos) rfl ?_
            refine o_want rfl ?_
            refine o_val (v_eqb Tryz.underlying4 rfl rfl) rfl ?_
            refine o_val (v_pickT rfl rfl) rfl ?_
            refine o_val (v_move rfl) rfl ?_
            refine o_want rfl ?_
            refine o_val (v_move rfl) rfl ?_
            refine o_want rfl ?_
            refine o_val (v_to (v := .bool false) (v_not rfl) rfl) rfl ?_
            refine o_want rfl ?_
            refine o_val (v_move rfl) rfl ?_
            refine o_want rfl ?_
            refine o_val (v_fieldAddr X.f68_0 rfl) rfl ?_
            refine o_want rfl ?_
            refine o_val (v_load X.s3 rfl (by repeat first | exact .head _ | apply List.Mem.tail) rfl) rfl ?_
            refine o_want rfl ?_
            refine o_val (v_move rfl) rfl ?_
            refine o_want rfl ?_
            refine o_val (v_T (v_eql rfl rfl) (hy ▸ hhe)) rfl ?_
            refine o_want rfl ?_
            refine o_val (v_pickF rfl rfl) rfl ?_
            refine o_val (v_pickT rfl rfl) rfl ?_
            refine o_val (v_assign rfl) rfl ?_
            refine o_nil ?_
            refine thn_n ?_
            refine w_ret ?_
            exact ret_ok (G := []) (res1 rfl) ⟨rfl, rfl⟩ (sub .nil (by repeat first | exact .refl | apply Drop.skip))
          ·
            refine w_seq ?_
            obtain rfl : k = 0 := by omega
            rw [List.drop_zero]
            have hK0 : ∀ x ∈ K, 0 ≤ x := fun x hx => (hB x hx).1
            have hM1 : ((StoreP.mid K l 0).map (StoreP.mark now)).length ≤ 1000 := by rw [List.length_map]; exact hm0
            have hcq : ((((StoreP.mid K l 0).filter (StoreP.due now)).length : Nat) : Int) = ((StoreP.cnt K now l : Nat) : Int) := by rw [mid_zero, late_all hK0 now (hI.fresh hK0)]
            refine w_region ?_
            refine o_val (v_move rfl) rfl ?_
            refine o_call (s_first_no b18 ((StoreP.mid K l 0).map (StoreP.mark now)) (K.length : Int) hM1 hno) X.b43  rfl (.cons (by repeat first | exact .head | apply Rem.tail) (.cons (by repeat first | exact .head | apply Rem.tail) .nil)) rfl ?_
            rintro _ _ ⟨rfl, rfl⟩
            refine o_val (v_move rfl) rfl ?_
            refine o_val (v_extract rfl rfl) rfl ?_
            refine o_val (v_extract rfl rfl) rfl ?_
            refine o_alloc X.z68 rfl ?_
            intro b18
            refine o_eff (v_storeAgg X.a68 rfl rfl (us := [_, _, _, _, _, _]) rfl rfl (by repeat first | exact .head | apply Rep.tail) (by exact Nat.le_of_ble_eq_true rfl) rfl) ?_
            refine o_val (v_assign rfl) rfl ?_
            refine o_nil ?_
            refine thn_n ?_
            refine w_seq ?_
            refine w_region ?_
            refine o_val (v_move rfl) rfl ?_
            refine o_val (v_len (ty' := 0) Tryz.underlying71 rfl) rfl ?_
            refine o_val (v_move rfl) rfl ?_
            refine o_val (v_T (v_eql rfl rfl) hcq) rfl ?_
            refine o_val (v_move rfl) rfl ?_
            refine o_want rfl ?_
            refine o_val (v_move rfl) rfl ?_
            refine o_want rfl ?_
            refine o_val (v_move rfl) rfl ?_
            refine o_want rfl ?_
            refine o_val (v_F (v_gtr rfl rfl) (by omega)) rfl ?_
            refine o_want rfl ?_
            refine o_val (v_eqb Tryz.underlying4 rfl rfl) rfl ?_
            refine o_val (v_pickT rfl rfl) rfl ?_
            refine o_val (v_move rfl) rfl ?_
            refine o_want rfl ?_
            refine o_val (v_move rfl) rfl ?_
            refine o_want rfl ?_
            refine o_val (v_to (v := .bool true) (v_not rfl) rfl) rfl ?_
            refine o_want rfl ?_
            refine o_val (v_move rfl) rfl ?_
            refine o_pass rfl rfl rfl ?_
            refine o_pass rfl rfl rfl ?_
            refine o_pass rfl rfl rfl ?_
            refine o_pass rfl rfl rfl ?_
            refine o_want rfl ?_
            refine o_val (v_pickT rfl rfl) rfl ?_
            refine o_val (v_pickT rfl rfl) rfl ?_
            refine o_val (v_assign rfl) rfl ?_
            refine o_nil ?_
            refine thn_n ?_
            refine w_ret ?_
            exact ret_ok (G := []) (res1 rfl) ⟨rfl, rfl⟩ (sub .nil (by repeat first | exact .refl | apply Drop.skip))
end Go.Proofs.YtookicfejdbddaaGreat

/- Walks of functions that the law reaches, and what they lean on; no conditions. -/
import Derived.Test.YtmbljkghkcgejaaGreatM30
import Derived.Test.YtmbljkghkcgejaaGreatSl22
import Derived.KernelRfl
import Derived.Test.YtmbljkghkcgejaaGreatM48
set_option linter.unusedVariables false
set_option linter.unusedSimpArgs false
set_option maxRecDepth 100000
namespace Go.Proofs.YtmbljkghkcgejaaGreat
open Go.Sl 
theorem TTZhU : okT Tryz.prog ⟨[77, 134], [(136, 1, 1)]⟩ = true := by kernel_rfl
set_option maxHeartbeats 8000000 in
theorem h_lengths (p : Option Addr) (c : Nat) (fr : List Int) (most : Int) (R : HProp) (hR : ∀ w0 h, R w0 h → RdR I3 p fr.length fr w0 h) : Ctr Tryz.prog 78 [.slice p fr.length c, .int .i64 most] [R] (Ret fun v G => (¬ OkL fr most ∧ v = .tuple #[.slice none 0 0, .bool false] ∧ G = [R]) ∨ (OkL fr most ∧ ∃ b o, v = .tuple #[.slice (some ⟨b, 0, none⟩) fr.length fr.length, .bool true] ∧ PkM.GoodX fr most.toNat o ∧ G = [Row I3 (some ⟨b, 0, none⟩) fr.length fr.length o, R])) := by
  refine spec_of [(0, _), (1, _)] Tryz.func78 rfl Tryz.ntmps78 rfl rfl ?_
  intro w0 F
  refine rT TTZhU 12 rfl ?_
  refine o_boolD 23 rfl (fun h23 => ?_) (fun h23 => ?_)
  ·
    refine rO TTZhU 19 rfl ?_
    exact ret_ok (res2 rfl rfl) (.inl ⟨fun hk => by have h1 := hk.m1; have h2 := hk.m2; have h3 := hk.len; omega, rfl, rfl⟩) (sub (rz1 .nil) dd0)
  ·
    refine rO TTZhU 4 rfl ?_
    refine o_boolD 27 rfl (fun h27 => ?_) (fun h27 => ?_)
    ·
      refine rO TTZhU 15 rfl ?_
      exact ret_ok (res2 rfl rfl) (.inl ⟨fun hk => by have h1 := hk.m1; have h2 := hk.m2; have h3 := hk.len; omega, rfl, rfl⟩) (sub (rz1 .nil) dd0)
    ·
      refine rO TTZhU 6 rfl ?_
      refine w_condD rfl (fun h31 => ?_) (fun h31 => ?_)
      ·
        refine rC TTZhU 8 rfl ?_
        exact ret_ok (res2 rfl rfl) (.inl ⟨fun hk => by have h1 := hk.m1; have h2 := hk.m2; have h3 := hk.len; omega, rfl, rfl⟩) (sub (rz1 .nil) dd0)
      ·
        refine rC TTZhU 16 rfl ?_
        refine w_add0 (Bank []) (bank_nil _ _) ?_
        refine w_add0 (Row PC none 0 0 []) (Row.nil _ _ _) ?_
        refine w_loop5 (fun (k : Nat) (po : Option Addr) (co : Nat) (o : List Pc) (B : List Pc) => [(0, .slice p fr.length c), (1, .int .i64 most), (6, .slice po (PkM.lvs fr k).length co), (32, .slice p fr.length c), (33, .int .i64 (fr.length : Int)), (34, .int .i64 (k : Int))]) (fun (k : Nat) (po : Option Addr) (co : Nat) (o : List Pc) (B : List Pc) => Row PC po (PkM.lvs fr k).length co o :: Bank B :: R :: F) (fun (k : Nat) (po : Option Addr) (co : Nat) (o : List Pc) (B : List Pc) => k ≤ fr.length ∧ (∀ i, i < k → 0 ≤ fr.getD i 0 ∧ fr.getD i 0 ≤ 1048576) ∧ o.map pk = PkM.lvs fr k ∧ (∀ x ∈ o, x ∈ B ∧ x.n = 1)) (fun (k : Nat) (po : Option Addr) (co : Nat) (o : List Pc) (B : List Pc) => fr.length - k) (i5 (0) (none) (0) ([]) ([]) ?_ (lc1 (lc5 ln)) (sub (rz3 .nil) dd0)) ?_
        ·
          exact ⟨Nat.zero_le _, fun i h => absurd h (Nat.not_lt_zero _), rfl, fun x h => by simp at h⟩
        intro k po co o B
        rintro ⟨hk, hf, hoP, hoB⟩
        refine rL TTZhU 6 rfl ?_
        refine w_condD rfl (fun h35 => ?_) (fun h35 => ?_)
        ·
          refine rC TTZhU 7 rfl ?_
          refine oV (xI V.sl77 (by exact rdH hR mm2)) ?_
          refine oV (xL V.s3 (by exact rdH hR mm2)) ?_
          refine rO TTZhU 6 rfl ?_
          have hk2 : k < fr.length := by omega
          rw [show I3.g fr (k : Int) = fr.getD k 0 from by simp [Ec.g]]
          refine rC TTZhU 4 rfl ?_
          refine o_boolD 41 rfl (fun h41 => ?_) (fun h41 => ?_)
          ·
            refine rO TTZhU 19 rfl ?_
            exact ret_ok (res2 rfl rfl) (.inl ⟨fun hk => by have h1 := hk.fre k (by omega); omega, rfl, rfl⟩) (sub (.cons rr2 .nil) dd2)
          ·
            refine rO TTZhU 5 rfl ?_
            refine w_condD rfl (fun h44 => ?_) (fun h44 => ?_)
            ·
              refine rC TTZhU 13 rfl ?_
              exact ret_ok (res2 rfl rfl) (.inl ⟨fun hk => by have h1 := hk.fre k (by omega); omega, rfl, rfl⟩) (sub (.cons rr2 .nil) dd2)
            ·
              refine rC TTZhU 3 rfl ?_
              have hf2 : ∀ i, i < k + 1 → 0 ≤ fr.getD i 0 ∧ fr.getD i 0 ≤ 1048576 := fun i hi => by
                rcases Nat.lt_or_ge i k with h | h
                · exact hf i h
                · obtain rfl : i = k := by omega
                  omega
              have hlk := PkM.lvs_len fr k
              refine rC TTZhU 5 rfl ?_
              refine w_condD rfl (fun h46 => ?_) (fun h46 => ?_)
              ·
                have hlv : (PkM.lvs fr (k + 1)).length = (PkM.lvs fr k).length + 1 := by rw [PkM.lvs_yes h46]; simp
                refine rC TTZhU 4 rfl ?_
                refine r_build (I3) [(k : Int)] V.sl77 V.z3 rfl rfl rfl rfl rfl rfl ?_
                intro b50
                refine oV (v_to (v := .agg #[.int .i64 (fr.getD k 0), .slice (some ⟨b50, 0, none⟩) 1 1]) (v_build V.pl136 V.z136 rfl (cs := [_, _]) rfl) rfl) ?_
                refine r_build PC [(Pc.mk (fr.getD k 0) (some ⟨b50, 0, none⟩) 1 1 [(k : Int)])] V.sl134 V.z136 rfl rfl rfl (fill_pc (Pc.mk (fr.getD k 0) (some ⟨b50, 0, none⟩) 1 1 [(k : Int)])) rfl rfl ?_
                intro b52
                refine r_append (c := (PC)) V.sl134 V.z136 rfl rfl rfl rfl rr2 (own mm0) (by omega) rfl ?_
                intro p53 c53
                rw [← hlv]
                refine rOs TTZhU 8 rfl (by omega) ?_
                exact j5 (k + 1) p53 c53 (o ++ [(Pc.mk (fr.getD k 0) (some ⟨b50, 0, none⟩) 1 1 [(k : Int)])]) ((Pc.mk (fr.getD k 0) (some ⟨b50, 0, none⟩) 1 1 [(k : Int)]) :: B) ⟨⟨by omega, hf2, by rw [List.map_append, hoP, PkM.lvs_yes h46]; rfl, fun x h => by rcases List.mem_append.1 h with h | h; exact ⟨List.mem_cons_of_mem _ (hoB x h).1, (hoB x h).2⟩; rw [List.mem_singleton.1 h]; exact ⟨List.mem_cons_self .., rfl⟩⟩, by omega⟩ (lc1 (lc5 ln)) ((fold' (.cons rr2 (.cons rr2 .nil)) dd0 (fun w0 h hh => bank_add (x := (Pc.mk (fr.getD k 0) (some ⟨b50, 0, none⟩) 1 1 [(k : Int)])) hh)).trans (sub (.cons rr1 (rz1 (.cons rr1 .nil))) dd1))
              ·
                refine rCs TTZhU 7 rfl (by omega) ?_
                (rw [← PkM.lvs_no h46]; exact j5 (k + 1) _ _ o B ⟨⟨by omega, hf2, by rw [hoP, PkM.lvs_no h46], hoB⟩, by omega⟩ (lc1 (lc5 ln)) (sub (rz3 .nil) dd0))
        ·
          refine rC TTZhU 6 rfl ?_
          obtain rfl : k = fr.length := by omega
          have hll := PkM.lvs_len fr fr.length
          refine rC TTZhU 11 rfl ?_
          refine oV (v_shl (r := ((2 ^ most.toNat : Nat) : Int)) rfl rfl (by omega) (shl_most (by omega))) ?_
          refine rO TTZhU 3 rfl ?_
          refine w_condD rfl (fun h60 => ?_) (fun h60 => ?_)
          ·
            refine rC TTZhU 8 rfl ?_
            exact ret_ok (res2 rfl rfl) (.inl ⟨fun hk => by have h1 := hk.few; omega, rfl, rfl⟩) (sub (.cons rr2 .nil) dd2)
          ·
            refine rC TTZhU 3 rfl ?_
            have hOk : OkL fr most := ⟨by omega, by omega, by omega, hf, by omega⟩
            refine rC TTZhU 3 rfl ?_
            refine r_makeN fr.length fr.length (I3) rfl rfl V.sl77 V.z3 rfl rfl rfl rfl (by omega) (by omega) rfl rfl ?_
            intro b63
            refine rO TTZhU 3 rfl ?_
            refine w_join1 (fun (o1 : List Int) => [(1, .int .i64 most), (6, .slice po (PkM.lvs fr fr.length).length co), (9, .int .i64 ((PkM.lvs fr fr.length).length : Int)), (10, .slice (some ⟨b63, 0, none⟩) fr.length fr.length)]) (fun (o1 : List Int) => Row I3 (some ⟨b63, 0, none⟩) fr.length fr.length o1 :: Row PC po (PkM.lvs fr fr.length).length co o :: Bank B :: R :: F) (fun (o1 : List Int) => ((PkM.lvs fr fr.length).length = 1 → PkM.GoodX fr most.toNat o1) ∧ ((PkM.lvs fr fr.length).length ≠ 1 → o1 = List.replicate fr.length 0)) ?_ ?_
            ·
              refine rL TTZhU 6 rfl ?_
              refine w_condD rfl (fun h65 => ?_) (fun h65 => ?_)
              ·
                obtain ⟨s1, w1, hone, hs1, hm1⟩ := one_leaf hoP (by omega)
                have hBk := (hoB _ hm1).1
                have hn1 := (hoB _ hm1).2
                have hg1 := PkM.good1X (most := most.toNat) (by omega) (by omega) hone
                have hg11 := hg1.1
                refine rC TTZhU 3 rfl ?_
                refine oV (xI V.sl134 (own mm1)) ?_
                refine oV (v_fieldAddr V.f136_1 rfl) ?_
                refine oV (r_loadF (c := (PC)) 1 V.s77 rfl (own mm1) (by omega) (by omega) rfl rfl) ?_
                refine oV (xI V.sl77 (by exact rdH (bank_rd hBk) mm2)) ?_
                refine oV (xL V.s3 (by exact rdH (bank_rd hBk) mm2)) ?_
                rw [show I3.g (PC.g o 0).s 0 = (s1 : Int) from by rw [hs1]; rfl]
                refine oV (xI V.sl77 (own mm0)) ?_
                refine o_eff (r_store (c := (I3)) (_) V.s3 rfl rfl rfl (by exact pp0) (by omega) (by omega) rfl rfl) ?_
                refine o_nil ?_
                refine j1 (_) ?_ (lc4 ln) (sub (rz4 .nil) dd0)
                exact ⟨fun _ => hg1.2, fun hne => absurd (by omega) hne⟩
              ·
                refine rC TTZhU 1 rfl ?_
                refine j1 (_) ?_ (lc4 ln) (sub (rz4 .nil) dd0)
                exact ⟨fun he => absurd (by omega) h65, fun _ => rfl⟩
            ·
              intro o1
              rintro ⟨hj1, hj2⟩
              refine rC TTZhU 7 rfl ?_
              refine w_condD rfl (fun h75 => ?_) (fun h75 => ?_)
              ·
                refine rC TTZhU 9 rfl ?_
                have hg : PkM.GoodX fr most.toNat o1 := by
                  rcases Nat.lt_or_ge (PkM.lvs fr fr.length).length 1 with h | h
                  · rw [hj2 (by omega)]; exact PkM.good0X (by omega) (by omega)
                  · exact hj1 (by omega)
                exact ret_ok (res2 rfl rfl) (.inr ⟨hOk, b63, o1, rfl, hg, rfl⟩) (sub (rz1 (.cons rr2 .nil)) dd2)
              ·
                refine rC TTZhU 5 rfl ?_
                refine o_call (st_sortP po (PkM.lvs fr fr.length).length co 93 [] [] (Bank B) Pc.w (fun _ => True) V.b93 (fun x y _ _ => k_lighter x y (Bank B)) o (by omega) (fun _ _ => trivial)) V.b92  rfl (.cons rr1 (.cons rr1 .nil)) rfl ?_
                rintro _ _ ⟨rfl, A0, hr0, hs0, rfl⟩
                refine rO TTZhU 3 rfl ?_
                have hol : o.length = (PkM.lvs fr fr.length).length := by rw [← hoP, List.length_map]
                have hA0l : A0.length = (PkM.lvs fr fr.length).length := by rw [hr0.len, hol]
                rw [← hA0l]
                have hss : PkM.SS (PkM.lvs fr fr.length) (A0.map pk) := by rw [← hoP]; exact ss_of hol hr0 hs0
                obtain ⟨hLf, hall, hAl⟩ := PkM.lf_of hss
                have hsmb : ∀ i, i < (A0.map pk).length → 0 ≤ PkM.sm (A0.map pk) i ∧ PkM.sm (A0.map pk) i < fr.length := fun i hi => ⟨(hall i hi).1, (hall i hi).2.1⟩
                have hA0B : ∀ x ∈ A0, x ∈ B ∧ x.n = 1 ∧ x.n = x.s.length := fun x hx => by
                  have h1 := hoB x (rl_mem hr0 hol hx)
                  have h2 : pk x ∈ PkM.lvs fr fr.length := by rw [← hoP]; exact List.mem_map.2 ⟨x, rl_mem hr0 hol hx, rfl⟩
                  obtain ⟨i, h3, h4, h5⟩ := PkM.lvs_mem.1 h2
                  have h6 : x.s = [(i : Int)] := congrArg Prod.snd h5
                  exact ⟨h1.1, h1.2, by rw [h6]; exact h1.2⟩
                have hAbd : ∀ x ∈ A0.map pk, 0 ≤ x.1 ∧ x.1 ≤ 1048576 ∧ x.2.length = 1 := fun x hx => by
                  obtain ⟨i, h3, h4, rfl⟩ := PkM.lvs_mem.1 ((PkM.ss_perm hss).mem_iff.1 hx)
                  exact ⟨by omega, (hOk.fre i h3).2, rfl⟩
                have hA2 : 2 ≤ A0.length := by omega
                have hA3 : A0.length ≤ 320 := by omega
                have hA4 : A0.length ≤ 2 ^ most.toNat := by rw [hA0l]; exact hOk.few
                refine rCs TTZhU 14 rfl (by omega) ?_
                refine w_imp (A := Row PC po A0.length co A0) (B := LL po A0.length co A0 po A0.length co A0) rr0 (fun h hh => ll_start hh) ?_
                refine w_loop5 (fun (j : Nat) (pl : Option Addr) (cl : Nat) (l : List Pc) (B2 : List Pc) => [(6, .slice po A0.length co), (9, .int .i64 (A0.length : Int)), (10, .slice (some ⟨b63, 0, none⟩) fr.length fr.length), (11, .slice pl l.length cl), (81, .int .i64 (most - 1)), (82, .int .i64 (j : Int))]) (fun (j : Nat) (pl : Option Addr) (cl : Nat) (l : List Pc) (B2 : List Pc) => LL po A0.length co A0 pl l.length cl l :: Bank B2 :: Row I3 (some ⟨b63, 0, none⟩) fr.length fr.length o1 :: R :: F) (fun (j : Nat) (pl : Option Addr) (cl : Nat) (l : List Pc) (B2 : List Pc) => j + 1 ≤ most.toNat ∧ l.map pk = PkM.lv (A0.map pk) (j + 1) ∧ (∀ x ∈ A0, x ∈ B2) ∧ (∀ x ∈ l, x ∈ B2 ∧ x.n = x.s.length)) (fun (j : Nat) (pl : Option Addr) (cl : Nat) (l : List Pc) (B2 : List Pc) => most.toNat - j) (i5 (0) (po) (co) (A0) (B) ?_ (lc1 (lc5 ln)) (sub (rz4 .nil) dd0)) ?_
                ·
                  exact ⟨by omega, PkM.lv_one.symm, fun x h => (hA0B x h).1, fun x h => ⟨(hA0B x h).1, (hA0B x h).2.2⟩⟩
                intro j pl cl l B2
                rintro ⟨hj, hlP, hAB2, hlB⟩
                refine rL TTZhU 6 rfl ?_
                refine w_condD rfl (fun h83 => ?_) (fun h83 => ?_)
                ·
                  refine rC TTZhU 5 rfl ?_
                  have hbd := pc_bd hAbd hlP (by omega)
                  have hlm : l.length ≤ 640 := by rw [← List.length_map (f := pk), hlP]; have h1 := PkM.lv_max (A0.map pk) (j + 1); rw [List.length_map] at h1; omega
                  refine rC TTZhU 3 rfl ?_
                  refine o_call (k_paired pl cl l B2 17179869184 16384 (LL po A0.length co A0 pl l.length cl l) ll_b (by omega) (by decide) (by decide) (fun x hx => ⟨(hlB x hx).1, (hlB x hx).2, (hbd x hx).1, (hbd x hx).2.1, by have h1 := (hbd x hx).2.2; have h2 := (hlB x hx).2; omega⟩)) V.b95  rfl (rz2 .nil) rfl ?_
                  rintro _ _ ⟨p2, c2, o2, B3, rfl, hB3, ho2, hP2, hl2, rfl⟩
                  refine r_build (PS) [Sx.mk po A0.length co, Sx.mk p2 (l.length / 2) c2] V.sl147 V.z134 rfl rfl rfl rfl rfl rfl ?_
                  intro b87
                  refine o_star (A := [LL po A0.length co A0 pl l.length cl l, Row PC p2 (l.length / 2) c2 o2]) (.cons rr2 (.cons rr1 .nil)) ?_
                  refine o_call (k_concat2P (some ⟨b87, 0, none⟩) 2 po A0.length co p2 (l.length / 2) c2 A0 o2 (Star [LL po A0.length co A0 pl l.length cl l, Row PC p2 (l.length / 2) c2 o2]) star_a star_b (by omega)) V.b94  rfl (.cons rr1 (rz1 .nil)) rfl ?_
                  rintro _ _ ⟨p88, c88, rfl, rfl⟩
                  refine o_unstar rr1 ?_
                  refine rO TTZhU 5 rfl ?_
                  refine o_call (st_sortP p88 (A0.length + l.length / 2) c88 93 [] [] (Bank B3) Pc.w (fun _ => True) V.b93 (fun x y _ _ => k_lighter x y (Bank B3)) (A0 ++ o2) (by omega) (fun _ _ => trivial)) V.b92  rfl (.cons rr2 (.cons rr2 .nil)) rfl ?_
                  rintro _ _ ⟨rfl, l2, hr2, hs2, rfl⟩
                  refine rO TTZhU 3 rfl ?_
                  have hl2e : l2.length = A0.length + l.length / 2 := by rw [hr2.len, List.length_append, hl2]
                  have hl2P := lv_next hLf.srt hlP hP2 (by rw [List.length_append, hl2]) hr2 hs2
                  rw [← hl2e]
                  refine rCs TTZhU 4 rfl (by omega) ?_
                  refine j5 (j + 1) p88 c88 l2 B3 ⟨⟨by omega, hl2P, fun x h => hB3 x (hAB2 x h), fun x h => ?_⟩, by omega⟩ (lc1 (lc5 ln)) ((fold' (.cons rr2 (rz1 .nil)) dd0 (fun w0 h hh => ll_next hh)).trans (sub (rz2 (.cons rr1 (.cons rr1 .nil))) dd1))
                  have hx := rl_mem hr2 (by rw [List.length_append, hl2]) h
                  rcases List.mem_append.1 hx with hx | hx
                  · exact ⟨hB3 x (hAB2 x hx), (hA0B x hx).2.2⟩
                  · exact ho2 x hx
                ·
                  refine rC TTZhU 7 rfl ?_
                  have hjm : j + 1 = most.toNat := by omega
                  rw [hjm] at hlP
                  have hen := PkM.lv_enough (A := A0.map pk) (most := most.toNat) (by omega) (by rw [List.length_map]; exact hA4)
                  rw [← hlP, List.length_map, List.length_map] at hen
                  obtain ⟨m2, hm2⟩ : ∃ m2, m2 = 2 * A0.length - 2 := ⟨_, rfl⟩
                  refine w_fact (fun w hi => inv_pure hi mm0 ll_cap) (fun hcap => ?_)
                  have hlm : l.length ≤ 640 := by rw [← List.length_map (f := pk), hlP]; have h1 := PkM.lv_max (A0.map pk) most.toNat; rw [List.length_map] at h1; omega
                  refine rCs TTZhU 5 rfl (by omega) ?_
                  rw [show (2 * (A0.length : Int)) - 2 = (m2 : Int) by omega]
                  refine oV (v_slice0 m2 _ V.sl134 rfl ⟨_, rfl⟩ rfl (by omega) (by omega)) ?_
                  refine rO TTZhU 5 rfl ?_
                  rw [show Row I3 (some ⟨b63, 0, none⟩) fr.length fr.length o1 = Row I3 (some ⟨b63, 0, none⟩) fr.length fr.length (PkM.cO fr.length (PkM.sy (l.map pk) 0)) from by rw [hj2 (by omega), ← PkM.cO_nil]; rfl]
                  refine w_loop1 (fun (i : Nat) => [(6, .slice po A0.length co), (9, .int .i64 (A0.length : Int)), (10, .slice (some ⟨b63, 0, none⟩) fr.length fr.length), (96, .slice pl m2 cl), (97, .int .i64 (m2 : Int)), (98, .int .i64 (i : Int))]) (fun (i : Nat) => LL po A0.length co A0 pl l.length cl l :: Bank B2 :: Row I3 (some ⟨b63, 0, none⟩) fr.length fr.length (PkM.cO fr.length (PkM.sy (l.map pk) i)) :: R :: F) (fun (i : Nat) => i ≤ m2) (fun (i : Nat) => m2 - i) (i1 (0) ?_ (lc1 (lc5 ln)) (sub (rz4 .nil) dd0)) ?_
                  ·
                    exact Nat.zero_le _
                  intro i
                  rintro hi
                  refine rL TTZhU 6 rfl ?_
                  refine w_condD rfl (fun h99 => ?_) (fun h99 => ?_)
                  ·
                    refine rC TTZhU 5 rfl ?_
                    have hi2 : i < l.length := by omega
                    have hxi : PC.g (l.take m2) (i : Int) = (PC.g l (i : Int)) := by simp [Ec.g, List.getElem?_take, show i < m2 by omega]
                    have hxm : (PC.g l (i : Int)) ∈ l := g_mem (by rw [Int.toNat_natCast]; exact hi2)
                    have hBk := (hlB _ hxm).1
                    have hxn := (hlB _ hxm).2
                    have hx3 := pc_bd (j := most.toNat - 1) hAbd (by rw [hlP]; congr 1; omega) (by omega) _ hxm
                    refine w_region ?_
                    refine oV (r_index (c := (PC)) V.sl134 rfl rfl (by exact (Has.take (rdH ll_b mm0) m2 (by omega))) (by omega) (by omega)) ?_
                    refine oV (r_loadA (c := (PC)) V.a136 rfl (by exact rdH ll_b mm0) (by omega) (by omega) rfl) ?_
                    try rw [hxi]
                    refine o_alloc V.z136 rfl ?_
                    intro b13
                    refine o_eff (v_storeAgg V.a136 rfl rfl (us := [_, _]) rfl rfl (by exact pp0) (by exact Nat.le_of_ble_eq_true rfl) rfl) ?_
                    refine rO TTZhU 5 rfl ?_
                    refine oV (v_load V.s77 rfl mm0 rfl) ?_
                    refine rO TTZhU 5 rfl ?_
                    rw [show Row I3 (some ⟨b63, 0, none⟩) fr.length fr.length (PkM.cO fr.length (PkM.sy (l.map pk) i)) = Row I3 (some ⟨b63, 0, none⟩) fr.length fr.length (PkM.cO fr.length (PkM.sy (l.map pk) i ++ (PC.g l (i : Int)).s.take 0)) from by rw [List.take_zero, List.append_nil]]
                    refine w_loop1 (fun (q : Nat) => [(6, .slice po A0.length co), (9, .int .i64 (A0.length : Int)), (10, .slice (some ⟨b63, 0, none⟩) fr.length fr.length), (96, .slice pl m2 cl), (97, .int .i64 (m2 : Int)), (98, .int .i64 (i : Int)), (103, .slice (PC.g l (i : Int)).p (PC.g l (i : Int)).n (PC.g l (i : Int)).c), (104, .int .i64 ((PC.g l (i : Int)).n : Int)), (105, .int .i64 (q : Int))]) (fun (q : Nat) => LL po A0.length co A0 pl l.length cl l :: Bank B2 :: Row I3 (some ⟨b63, 0, none⟩) fr.length fr.length (PkM.cO fr.length (PkM.sy (l.map pk) i ++ (PC.g l (i : Int)).s.take q)) :: R :: F) (fun (q : Nat) => q ≤ (PC.g l (i : Int)).n) (fun (q : Nat) => (PC.g l (i : Int)).n - q) (i1 (0) ?_ (lc4 (lc5 ln)) (sub (.cons rr1 (.cons rr1 (.cons rr1 (.cons rr1 .nil)))) dd1)) ?_
                    ·
                      exact Nat.zero_le _
                    intro q
                    rintro hq
                    refine rL TTZhU 6 rfl ?_
                    refine w_condD rfl (fun h106 => ?_) (fun h106 => ?_)
                    ·
                      refine rC TTZhU 5 rfl ?_
                      have hq2 : q < (PC.g l (i : Int)).s.length := by omega
                      have hsb := sym_bd hLf hsmb hlP hi2 hq2
                      have hsyl := PkM.sy_len (l := l.map pk) (N := 16384) (fun x hx => by obtain ⟨y, hy, rfl⟩ := List.mem_map.1 hx; exact (pc_bd (j := most.toNat - 1) hAbd (by rw [hlP]; congr 1; omega) (by omega) _ hy).2.2) i
                      have hcb := cnt_bd (L := fr.length) (X := PkM.sy (l.map pk) i ++ (PC.g l (i : Int)).s.take q) (N := 100000000) (by rw [List.length_append, List.length_take]; omega) (I3.g (PC.g l (i : Int)).s (q : Int))
                      have hcl := PkM.cO_len fr.length (PkM.sy (l.map pk) i ++ (PC.g l (i : Int)).s.take q)
                      refine w_region ?_
                      refine oV (xI V.sl77 (by exact rdH (bank_rd hBk) mm1)) ?_
                      refine oV (xL V.s3 (by exact rdH (bank_rd hBk) mm1)) ?_
                      refine rO TTZhU 6 rfl ?_
                      refine oV (xI V.sl77 (own mm2)) ?_
                      refine oV (xL V.s3 (own mm2)) ?_
                      refine rOs TTZhU 1 rfl (by omega) ?_
                      refine oV (xI V.sl77 (own mm2)) ?_
                      refine o_eff (r_store (c := (I3)) (_) V.s3 rfl rfl rfl (by exact pp2) (by omega) (by omega) rfl rfl) ?_
                      refine rOs TTZhU 7 rfl (by omega) ?_
                      rw [cnt_step hq2 hsb]
                      refine j1 (q + 1) ?_ (lc4 (lc5 ln)) (sub (rz4 .nil) dd0)
                      exact ⟨by omega, by omega⟩
                    ·
                      refine rC TTZhU 6 rfl ?_
                      obtain rfl : q = (PC.g l (i : Int)).n := by omega
                      rw [sy_next hi2 hxn]
                      refine rCs TTZhU 4 rfl (by omega) ?_
                      refine j1 (i + 1) ?_ (lc1 (lc5 ln)) (sub (rz4 .nil) dd0)
                      exact ⟨by omega, by omega⟩
                  ·
                    refine rC TTZhU 6 rfl ?_
                    have him : i = m2 := by omega
                    rw [him]
                    refine rC TTZhU 13 rfl ?_
                    refine w_add0 (Row I3 none 0 0 []) (Row.nil _ _ _) ?_
                    refine w_loop3 (fun (k : Nat) (pa : Option Addr) (ca : Nat) => [(6, .slice po A0.length co), (9, .int .i64 (A0.length : Int)), (10, .slice (some ⟨b63, 0, none⟩) fr.length fr.length), (16, .slice pa k ca), (117, .slice po A0.length co), (118, .int .i64 (A0.length : Int)), (119, .int .i64 (k : Int))]) (fun (k : Nat) (pa : Option Addr) (ca : Nat) => Row I3 pa k ca ((PkM.cs (A0.map pk) most.toNat).take k) :: LL po A0.length co A0 pl l.length cl l :: Bank B2 :: Row I3 (some ⟨b63, 0, none⟩) fr.length fr.length (PkM.cO fr.length (PkM.sy (l.map pk) m2)) :: R :: F) (fun (k : Nat) (pa : Option Addr) (ca : Nat) => k ≤ A0.length) (fun (k : Nat) (pa : Option Addr) (ca : Nat) => A0.length - k) (i3 (0) (none) (0) ?_ (lc2 (lc5 ln)) (sub (rz5 .nil) dd0)) ?_
                    ·
                      exact Nat.zero_le _
                    intro k pa ca
                    rintro hk
                    refine rL TTZhU 6 rfl ?_
                    refine w_condD rfl (fun h120 => ?_) (fun h120 => ?_)
                    ·
                      refine rC TTZhU 5 rfl ?_
                      have hk2 : k < A0.length := by omega
                      have hxm : (PC.g A0 (k : Int)) ∈ A0 := g_mem (by rw [Int.toNat_natCast]; exact hk2)
                      have hBk := hAB2 _ hxm
                      have hxn := (hA0B _ hxm).2.1
                      have hsm := hsmb k (by rw [List.length_map]; exact hk2)
                      have hcl := PkM.cO_len fr.length (PkM.sy (l.map pk) m2)
                      refine w_region ?_
                      refine oV (xI V.sl134 (by exact rdH ll_a mm1)) ?_
                      refine oV (r_loadA (c := (PC)) V.a136 rfl (by exact rdH ll_a mm1) (by omega) (by omega) rfl) ?_
                      refine o_alloc V.z136 rfl ?_
                      intro b18
                      refine o_eff (v_storeAgg V.a136 rfl rfl (us := [_, _]) rfl rfl (by exact pp0) (by exact Nat.le_of_ble_eq_true rfl) rfl) ?_
                      refine rO TTZhU 6 rfl ?_
                      refine oV (v_load V.s77 rfl mm0 rfl) ?_
                      refine oV (xI V.sl77 (by exact rdH (bank_rd hBk) mm3)) ?_
                      refine oV (xL V.s3 (by exact rdH (bank_rd hBk) mm3)) ?_
                      rw [sm_g hk2]
                      refine oV (xI V.sl77 (own mm4)) ?_
                      refine oV (xL V.s3 (own mm4)) ?_
                      rw [hlP, ct_g hsm, ← hlP]
                      refine r_build (I3) [(PkM.ct (A0.map pk) most.toNat m2 k : Int)] V.sl77 V.z3 rfl rfl rfl rfl rfl rfl ?_
                      intro b131
                      refine r_append (c := (I3)) V.sl77 V.z3 rfl rfl rfl rfl rr2 (own mm0) (by omega) rfl ?_
                      intro p132 c132
                      refine rOs TTZhU 8 rfl (by omega) ?_
                      rw [show (PkM.ct (A0.map pk) most.toNat m2 k : Int) = (PkM.ct (A0.map pk) most.toNat (2 * (A0.map pk).length - 2) k : Int) from by rw [List.length_map, hm2], PkM.cs_take (by rw [List.length_map]; exact hk2)]
                      refine j3 (k + 1) (_) (_) ?_ (lc2 (lc5 ln)) (sub (rz1 (.cons rr2 (.cons rr2 (.cons rr2 (.cons rr2 .nil))))) dd2)
                      exact ⟨by omega, by omega⟩
                    ·
                      refine rC TTZhU 6 rfl ?_
                      obtain rfl : k = A0.length := by omega
                      have hcsl : (PkM.cs (A0.map pk) most.toNat).length = A0.length := by rw [PkM.cs_len, List.length_map]
                      rw [List.take_of_length_le (Nat.le_of_eq hcsl)]
                      refine rC TTZhU 2 rfl ?_
                      refine o_call (k_sortI pa A0.length ca (PkM.cs (A0.map pk) most.toNat) (by omega) (by omega)) V.b96  rfl (rz1 .nil) rfl ?_
                      rintro _ _ ⟨rfl, rfl⟩
                      refine rO TTZhU 11 rfl ?_
                      refine w_loop1 (fun (k : Nat) => [(9, .int .i64 (A0.length : Int)), (10, .slice (some ⟨b63, 0, none⟩) fr.length fr.length), (16, .slice pa A0.length ca), (136, .slice po A0.length co), (137, .int .i64 (A0.length : Int)), (138, .int .i64 (k : Int))]) (fun (k : Nat) => Row I3 pa A0.length ca ((PkM.cs (A0.map pk) most.toNat).mergeSort fun x y => decide (x ≤ y)) :: LL po A0.length co A0 pl l.length cl l :: Bank B2 :: Row I3 (some ⟨b63, 0, none⟩) fr.length fr.length (PkM.putK (PkM.sm (A0.map pk)) (fun i => ((PkM.cs (A0.map pk) most.toNat).mergeSort fun x y => decide (x ≤ y)).getD ((A0.map pk).length - 1 - i) 0) (PkM.cO fr.length (PkM.sy (l.map pk) m2)) k) :: R :: F) (fun (k : Nat) => k ≤ A0.length) (fun (k : Nat) => A0.length - k) (i1 (0) ?_ (lc1 (lc5 ln)) (sub (rz5 .nil) dd0)) ?_
                      ·
                        exact Nat.zero_le _
                      intro k
                      rintro hk
                      refine rL TTZhU 6 rfl ?_
                      refine w_condD rfl (fun h139 => ?_) (fun h139 => ?_)
                      ·
                        refine rC TTZhU 5 rfl ?_
                        have hk2 : k < A0.length := by omega
                        have hxm : (PC.g A0 (k : Int)) ∈ A0 := g_mem (by rw [Int.toNat_natCast]; exact hk2)
                        have hBk := hAB2 _ hxm
                        have hxn := (hA0B _ hxm).2.1
                        have hsm := hsmb k (by rw [List.length_map]; exact hk2)
                        rw [← sm_g hk2] at hsm
                        refine rC TTZhU 2 rfl ?_
                        refine oV (xI V.sl134 (by exact rdH ll_a mm1)) ?_
                        refine oV (r_loadA (c := (PC)) V.a136 rfl (by exact rdH ll_a mm1) (by omega) (by omega) rfl) ?_
                        refine o_alloc V.z136 rfl ?_
                        intro b20
                        refine oV (v_assign rfl) ?_
                        refine o_eff (v_storeAgg V.a136 rfl rfl (us := [_, _]) rfl rfl (by exact pp0) (by exact Nat.le_of_ble_eq_true rfl) rfl) ?_
                        refine rO TTZhU 2 rfl ?_
                        refine wN [pz 0 [] [10], pz 0 [] [20], pz 2 [1] [], pz 6 [2] [], pz 14 [3] [], pz 0 [] [16], pz 0 [] [9], pz 64 [6] [], pz 0 [] [19], pz 448 [7, 8] [], pz 992 [5, 9] [], pz 2016 [10] [], pz 4095 [0, 4] [], pz 8191 [12, 11] []] [⟨fun y => Cel b20 136 [.int .i64 (PC.g A0 (k : Int)).w, .slice (PC.g A0 (k : Int)).p (PC.g A0 (k : Int)).n (PC.g A0 (k : Int)).c], none, none, [2]⟩, ⟨fun y => Row I3 pa A0.length ca ((PkM.cs (A0.map pk) most.toNat).mergeSort fun x y => decide (x ≤ y)), none, none, [10, 11]⟩, ⟨fun y => LL po A0.length co A0 pl l.length cl l, none, none, []⟩, ⟨fun y => Bank B2, none, none, [3, 4]⟩, ⟨fun y => Row I3 (some ⟨b63, 0, none⟩) fr.length fr.length (PkM.putK (PkM.sm (A0.map pk)) (fun i => ((PkM.cs (A0.map pk) most.toNat).mergeSort fun x y => decide (x ≤ y)).getD ((A0.map pk).length - 1 - i) 0) (PkM.cO fr.length (PkM.sy (l.map pk) m2)) k), none, some 13, [12]⟩, ⟨fun y => R, none, none, []⟩, ⟨fun y => Row I3 (some ⟨b63, 0, none⟩) fr.length fr.length ((PkM.putK (PkM.sm (A0.map pk)) (fun i => ((PkM.cs (A0.map pk) most.toNat).mergeSort fun x y => decide (x ≤ y)).getD ((A0.map pk).length - 1 - i) 0) (PkM.cO fr.length (PkM.sy (l.map pk) m2)) k).set ((I3).g ((PC.g A0 (k : Int)).s) 0).toNat ((I3).g ((PkM.cs (A0.map pk) most.toNat).mergeSort fun x y => decide (x ≤ y)) (((A0.length : Int) - 1) - (k : Int)))), some 13, none, []⟩] F V.mixed ?_
                        refine nM ?_
                        refine nG V.f136_1 ?_
                        refine nR (fun y FF hA => v_load V.s77 rfl mm0 rfl) ?_
                        refine nR (fun y FF hA => xI V.sl77 (by exact rdH (bank_rd hBk) mm0)) ?_
                        refine nR (fun y FF hA => xL V.s3 (by exact rdH (bank_rd hBk) mm0)) ?_
                        iterate 2 refine nM ?_
                        refine nV (fun y hA L => v_sub rfl rfl wI) ?_
                        refine nM ?_
                        refine nV (fun y hA L => v_sub rfl rfl wI) ?_
                        refine nR (fun y FF hA => xI V.sl77 (own mm0)) ?_
                        refine nR (fun y FF hA => xL V.s3 (own mm0)) ?_
                        refine nR (fun y FF hA => xI V.sl77 (own mm0)) ?_
                        refine nE (fun y FF hA => st_v (r_store (c := (I3)) (_) V.s3 rfl rfl rfl (by exact pp0) (by omega) (by omega) rfl rfl) ⟨rfl, .refl _⟩) ?_
                        refine net_nil ?_
                        intro y hA
                        clear hA
                        refine rN TTZhU 2 rfl ?_
                        refine w_keep [(9, .int .i64 (A0.length : Int)), (10, .slice (some ⟨b63, 0, none⟩) fr.length fr.length), (16, .slice pa A0.length ca), (136, .slice po A0.length co), (137, .int .i64 (A0.length : Int)), (138, .int .i64 (k : Int))] (.cons (d := 9) rfl (.cons (d := 10) rfl (.cons (d := 16) rfl (.cons (d := 136) rfl (.cons (d := 137) rfl (.cons (d := 138) rfl (.nil _))))))) ?_
                        refine w_sub (M := Cel b20 136 [.int .i64 (PC.g A0 (k : Int)).w, .slice (PC.g A0 (k : Int)).p (PC.g A0 (k : Int)).n (PC.g A0 (k : Int)).c] :: Row I3 pa A0.length ca ((PkM.cs (A0.map pk) most.toNat).mergeSort fun x y => decide (x ≤ y)) :: LL po A0.length co A0 pl l.length cl l :: Bank B2 :: R :: Row I3 (some ⟨b63, 0, none⟩) fr.length fr.length ((PkM.putK (PkM.sm (A0.map pk)) (fun i => ((PkM.cs (A0.map pk) most.toNat).mergeSort fun x y => decide (x ≤ y)).getD ((A0.map pk).length - 1 - i) 0) (PkM.cO fr.length (PkM.sy (l.map pk) m2)) k).set ((I3).g ((PC.g A0 (k : Int)).s) 0).toNat ((I3).g ((PkM.cs (A0.map pk) most.toNat).mergeSort fun x y => decide (x ≤ y)) (((A0.length : Int) - 1) - (k : Int)))) :: F) (fun _ _ h => h) ?_
                        refine rCs TTZhU 4 rfl (by omega) ?_
                        rw [put_step hk2]
                        refine j1 (k + 1) ?_ (lc1 (lc5 ln)) (sub (.cons rr1 (.cons rr1 (.cons rr1 (.cons rr2 (.cons rr1 .nil))))) dd1)
                        exact ⟨by omega, by omega⟩
                      ·
                        refine rC TTZhU 13 rfl ?_
                        obtain rfl : k = (A0.map pk).length := by rw [List.length_map]; omega
                        have em2 : 2 * (A0.map pk).length - 2 = m2 := by rw [List.length_map, hm2]
                        have hg := PkM.goodLX hss (most := most.toNat) (by omega) (by omega) (by omega) (by rw [List.length_map]; exact hA2) (by rw [List.length_map]; exact hA4)
                        rw [← PkM.out_eq hLf hsmb, em2, ← hlP] at hg
                        exact ret_ok (res2 rfl rfl) (.inr ⟨hOk, b63, _, rfl, hg, rfl⟩) (sub (.cons rr3 (.cons rr3 .nil)) dd3)
end Go.Proofs.YtmbljkghkcgejaaGreat

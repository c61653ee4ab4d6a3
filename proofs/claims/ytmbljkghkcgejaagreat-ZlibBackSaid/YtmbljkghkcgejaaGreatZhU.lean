/- Walks of functions that the law reaches, and what they lean on; no conditions. -/
import Derived.Test.YtmbljkghkcgejaaGreatM30
import Derived.Test.YtmbljkghkcgejaaGreatSl22
import Derived.KernelRfl
import Derived.Test.YtmbljkghkcgejaaGreatM48
set_option linter.unusedVariables false
set_option linter.unusedSimpArgs false
set_option maxRecDepth 100000
namespace Go.Proofs.YtmbljkghkcgejaaGreat
open Go.Sl 
theorem bE : dJ Tryz.prog ⟨[77, 134], [(136, 1, 1)]⟩ = true := by kernel_rfl
set_option maxHeartbeats 8000000 in
theorem CZ (p : Option Addr) (c : Nat) (fr : List Int) (most : Int) (R : ae) (hR : ∀ w0 h, R w0 h → bJ I3 p fr.length fr w0 h) : aD Tryz.prog 78 [.slice p fr.length c, .int .i64 most] [R] (aK fun v G => (¬ vP fr most ∧ v = .tuple #[.slice none 0 0, .bool false] ∧ G = [R]) ∨ (vP fr most ∧ ∃ b o, v = .tuple #[.slice (some ⟨b, 0, none⟩) fr.length fr.length, .bool true] ∧ aJ.qY fr most.toNat o ∧ G = [Row I3 (some ⟨b, 0, none⟩) fr.length fr.length o, R])) := by
  refine ax [(0, _), (1, _)] Tryz.func78 rfl Tryz.ntmps78 rfl rfl ?_
  intro w0 F
  refine rT bE 12 rfl ?_
  refine ee 23 rfl (fun h23 => ?_) (fun h23 => ?_)
  ·
    refine rO bE 19 rfl ?_
    exact an (bT rfl rfl) (.inl ⟨fun hk => by have h1 := hk.m1; have h2 := hk.m2; have h3 := hk.len; omega, rfl, rfl⟩) (sub (au .nil) ao)
  ·
    refine rO bE 4 rfl ?_
    refine ee 27 rfl (fun h27 => ?_) (fun h27 => ?_)
    ·
      refine rO bE 15 rfl ?_
      exact an (bT rfl rfl) (.inl ⟨fun hk => by have h1 := hk.m1; have h2 := hk.m2; have h3 := hk.len; omega, rfl, rfl⟩) (sub (au .nil) ao)
    ·
      refine rO bE 6 rfl ?_
      refine aj rfl (fun h31 => ?_) (fun h31 => ?_)
      ·
        refine rC bE 8 rfl ?_
        exact an (bT rfl rfl) (.inl ⟨fun hk => by have h1 := hk.m1; have h2 := hk.m2; have h3 := hk.len; omega, rfl, rfl⟩) (sub (au .nil) ao)
      ·
        refine rC bE 16 rfl ?_
        refine eW (gC []) (Eh _ _) ?_
        refine eW (Row PC none 0 0 []) (Row.nil _ _ _) ?_
        refine mR (fun (k : Nat) (po : Option Addr) (co : Nat) (o : List Pc) (B : List Pc) => [(0, .slice p fr.length c), (1, .int .i64 most), (6, .slice po (aJ.eg fr k).length co), (32, .slice p fr.length c), (33, .int .i64 (fr.length : Int)), (34, .int .i64 (k : Int))]) (fun (k : Nat) (po : Option Addr) (co : Nat) (o : List Pc) (B : List Pc) => Row PC po (aJ.eg fr k).length co o :: gC B :: R :: F) (fun (k : Nat) (po : Option Addr) (co : Nat) (o : List Pc) (B : List Pc) => k ≤ fr.length ∧ (∀ i, i < k → 0 ≤ fr.getD i 0 ∧ fr.getD i 0 ≤ 1048576) ∧ o.map pk = aJ.eg fr k ∧ (∀ x ∈ o, x ∈ B ∧ x.n = 1)) (fun (k : Nat) (po : Option Addr) (co : Nat) (o : List Pc) (B : List Pc) => fr.length - k) (i5 (0) (none) (0) ([]) ([]) ?_ (fO (aX ln)) (sub (dU .nil) ao)) ?_
        ·
          exact ⟨Nat.zero_le _, fun i h => absurd h (Nat.not_lt_zero _), rfl, fun x h => by simp at h⟩
        intro k po co o B
        rintro ⟨hk, hf, hoP, hoB⟩
        refine rL bE 6 rfl ?_
        refine aj rfl (fun h35 => ?_) (fun h35 => ?_)
        ·
          refine rC bE 7 rfl ?_
          refine oV (xI V.aF (by exact bd hR dE)) ?_
          refine oV (xL V.s3 (by exact bd hR dE)) ?_
          refine rO bE 6 rfl ?_
          have hk2 : k < fr.length := by omega
          rw [show I3.g fr (k : Int) = fr.getD k 0 from by simp [Ec.g]]
          refine rC bE 4 rfl ?_
          refine ee 41 rfl (fun h41 => ?_) (fun h41 => ?_)
          ·
            refine rO bE 19 rfl ?_
            exact an (bT rfl rfl) (.inl ⟨fun hk => by have h1 := hk.IK k (by omega); omega, rfl, rfl⟩) (sub (.cons aS .nil) fg)
          ·
            refine rO bE 5 rfl ?_
            refine aj rfl (fun h44 => ?_) (fun h44 => ?_)
            ·
              refine rC bE 13 rfl ?_
              exact an (bT rfl rfl) (.inl ⟨fun hk => by have h1 := hk.IK k (by omega); omega, rfl, rfl⟩) (sub (.cons aS .nil) fg)
            ·
              refine rC bE 3 rfl ?_
              have hf2 : ∀ i, i < k + 1 → 0 ≤ fr.getD i 0 ∧ fr.getD i 0 ≤ 1048576 := fun i hi => by
                rcases Nat.lt_or_ge i k with h | h
                · exact hf i h
                · obtain rfl : i = k := by omega
                  omega
              have hlk := aJ.kZ fr k
              refine rC bE 5 rfl ?_
              refine aj rfl (fun h46 => ?_) (fun h46 => ?_)
              ·
                have hlv : (aJ.eg fr (k + 1)).length = (aJ.eg fr k).length + 1 := by rw [aJ.zh h46]; simp
                refine rC bE 4 rfl ?_
                refine bP (I3) [(k : Int)] V.aF V.z3 rfl rfl rfl rfl rfl rfl ?_
                intro sb
                refine oV (de (v := .agg #[.int .i64 (fr.getD k 0), .slice (some ⟨sb, 0, none⟩) 1 1]) (eP V.Gj V.nm rfl (cs := [_, _]) rfl) rfl) ?_
                refine bP PC [(Pc.mk (fr.getD k 0) (some ⟨sb, 0, none⟩) 1 1 [(k : Int)])] V.df V.nm rfl rfl rfl (yT (Pc.mk (fr.getD k 0) (some ⟨sb, 0, none⟩) 1 1 [(k : Int)])) rfl rfl ?_
                intro yg
                refine bQ (c := (PC)) V.df V.nm rfl rfl rfl rfl aS (own ak) (by omega) rfl ?_
                intro p53 c53
                rw [← hlv]
                refine bN bE 8 rfl (by omega) ?_
                exact j5 (k + 1) p53 c53 (o ++ [(Pc.mk (fr.getD k 0) (some ⟨sb, 0, none⟩) 1 1 [(k : Int)])]) ((Pc.mk (fr.getD k 0) (some ⟨sb, 0, none⟩) 1 1 [(k : Int)]) :: B) ⟨⟨by omega, hf2, by rw [List.map_append, hoP, aJ.zh h46]; rfl, fun x h => by rcases List.mem_append.1 h with h | h; exact ⟨List.mem_cons_of_mem _ (hoB x h).1, (hoB x h).2⟩; rw [List.mem_singleton.1 h]; exact ⟨List.mem_cons_self .., rfl⟩⟩, by omega⟩ (fO (aX ln)) ((aG (.cons aS (.cons aS .nil)) ao (fun w0 h hh => x9 (x := (Pc.mk (fr.getD k 0) (some ⟨sb, 0, none⟩) 1 1 [(k : Int)])) hh)).trans (sub (.cons ar (au (.cons ar .nil))) cw))
              ·
                refine cy bE 7 rfl (by omega) ?_
                (rw [← aJ.BW h46]; exact j5 (k + 1) _ _ o B ⟨⟨by omega, hf2, by rw [hoP, aJ.BW h46], hoB⟩, by omega⟩ (fO (aX ln)) (sub (dU .nil) ao))
        ·
          refine rC bE 6 rfl ?_
          obtain rfl : k = fr.length := by omega
          have hll := aJ.kZ fr fr.length
          refine rC bE 11 rfl ?_
          refine oV (eI (r := ((2 ^ most.toNat : Nat) : Int)) rfl rfl (by omega) (Fq (by omega))) ?_
          refine rO bE 3 rfl ?_
          refine aj rfl (fun h60 => ?_) (fun h60 => ?_)
          ·
            refine rC bE 8 rfl ?_
            exact an (bT rfl rfl) (.inl ⟨fun hk => by have h1 := hk.KL; omega, rfl, rfl⟩) (sub (.cons aS .nil) fg)
          ·
            refine rC bE 3 rfl ?_
            have hOk : vP fr most := ⟨by omega, by omega, by omega, hf, by omega⟩
            refine rC bE 3 rfl ?_
            refine ry fr.length fr.length (I3) rfl rfl V.aF V.z3 rfl rfl rfl rfl (by omega) (by omega) rfl rfl ?_
            intro iW
            refine rO bE 3 rfl ?_
            refine ot (fun (o1 : List Int) => [(1, .int .i64 most), (6, .slice po (aJ.eg fr fr.length).length co), (9, .int .i64 ((aJ.eg fr fr.length).length : Int)), (10, .slice (some ⟨iW, 0, none⟩) fr.length fr.length)]) (fun (o1 : List Int) => Row I3 (some ⟨iW, 0, none⟩) fr.length fr.length o1 :: Row PC po (aJ.eg fr fr.length).length co o :: gC B :: R :: F) (fun (o1 : List Int) => ((aJ.eg fr fr.length).length = 1 → aJ.qY fr most.toNat o1) ∧ ((aJ.eg fr fr.length).length ≠ 1 → o1 = List.replicate fr.length 0)) ?_ ?_
            ·
              refine rL bE 6 rfl ?_
              refine aj rfl (fun h65 => ?_) (fun h65 => ?_)
              ·
                obtain ⟨s1, w1, hone, hs1, hm1⟩ := Ea hoP (by omega)
                have hBk := (hoB _ hm1).1
                have hn1 := (hoB _ hm1).2
                have hg1 := aJ.CJ (most := most.toNat) (by omega) (by omega) hone
                have hg11 := hg1.1
                refine rC bE 3 rfl ?_
                refine oV (xI V.df (own bB)) ?_
                refine oV (iD V.sM rfl) ?_
                refine oV (lT (c := (PC)) 1 V.fk rfl (own bB) (by omega) (by omega) rfl rfl) ?_
                refine oV (xI V.aF (by exact bd (jm hBk) dE)) ?_
                refine oV (xL V.s3 (by exact bd (jm hBk) dE)) ?_
                rw [show I3.g (PC.g o 0).s 0 = (s1 : Int) from by rw [hs1]; rfl]
                refine oV (xI V.aF (own ak)) ?_
                refine bM (eb (c := (I3)) (_) V.s3 rfl rfl rfl (by exact dO) (by omega) (by omega) rfl rfl) ?_
                refine bC ?_
                refine j1 (_) ?_ (dI ln) (sub (gA .nil) ao)
                exact ⟨fun _ => hg1.2, fun hne => absurd (by omega) hne⟩
              ·
                refine rC bE 1 rfl ?_
                refine j1 (_) ?_ (dI ln) (sub (gA .nil) ao)
                exact ⟨fun he => absurd (by omega) h65, fun _ => rfl⟩
            ·
              intro o1
              rintro ⟨hj1, hj2⟩
              refine rC bE 7 rfl ?_
              refine aj rfl (fun h75 => ?_) (fun h75 => ?_)
              ·
                refine rC bE 9 rfl ?_
                have hg : aJ.qY fr most.toNat o1 := by
                  rcases Nat.lt_or_ge (aJ.eg fr fr.length).length 1 with h | h
                  · rw [hj2 (by omega)]; exact aJ.Cr (by omega) (by omega)
                  · exact hj1 (by omega)
                exact an (bT rfl rfl) (.inr ⟨hOk, iW, o1, rfl, hg, rfl⟩) (sub (au (.cons aS .nil)) fg)
              ·
                refine rC bE 5 rfl ?_
                refine ai (vO po (aJ.eg fr fr.length).length co 93 [] [] (gC B) Pc.w (fun _ => True) V.Mf (fun x y _ _ => vm x y (gC B)) o (by omega) (fun _ _ => trivial)) V.L8  rfl (.cons ar (.cons ar .nil)) rfl ?_
                rintro _ _ ⟨rfl, A0, hr0, hs0, rfl⟩
                refine rO bE 3 rfl ?_
                have hol : o.length = (aJ.eg fr fr.length).length := by rw [← hoP, List.length_map]
                have hA0l : A0.length = (aJ.eg fr fr.length).length := by rw [hr0.len, hol]
                rw [← hA0l]
                have hss : aJ.SS (aJ.eg fr fr.length) (A0.map pk) := by rw [← hoP]; exact F0 hol hr0 hs0
                obtain ⟨hLf, hall, hAl⟩ := aJ.FY hss
                have hsmb : ∀ i, i < (A0.map pk).length → 0 ≤ aJ.sm (A0.map pk) i ∧ aJ.sm (A0.map pk) i < fr.length := fun i hi => ⟨(hall i hi).1, (hall i hi).2.1⟩
                have hA0B : ∀ x ∈ A0, x ∈ B ∧ x.n = 1 ∧ x.n = x.s.length := fun x hx => by
                  have h1 := hoB x (wY hr0 hol hx)
                  have h2 : pk x ∈ aJ.eg fr fr.length := by rw [← hoP]; exact List.mem_map.2 ⟨x, wY hr0 hol hx, rfl⟩
                  obtain ⟨i, h3, h4, h5⟩ := aJ.jq.1 h2
                  have h6 : x.s = [(i : Int)] := congrArg Prod.snd h5
                  exact ⟨h1.1, h1.2, by rw [h6]; exact h1.2⟩
                have hAbd : ∀ x ∈ A0.map pk, 0 ≤ x.1 ∧ x.1 ≤ 1048576 ∧ x.2.length = 1 := fun x hx => by
                  obtain ⟨i, h3, h4, rfl⟩ := aJ.jq.1 ((aJ.oE hss).mem_iff.1 hx)
                  exact ⟨by omega, (hOk.IK i h3).2, rfl⟩
                have hA2 : 2 ≤ A0.length := by omega
                have hA3 : A0.length ≤ 320 := by omega
                have hA4 : A0.length ≤ 2 ^ most.toNat := by rw [hA0l]; exact hOk.KL
                refine cy bE 14 rfl (by omega) ?_
                refine vB (A := Row PC po A0.length co A0) (B := LL po A0.length co A0 po A0.length co A0) dg (fun h hh => Fy hh) ?_
                refine mR (fun (j : Nat) (pl : Option Addr) (cl : Nat) (l : List Pc) (B2 : List Pc) => [(6, .slice po A0.length co), (9, .int .i64 (A0.length : Int)), (10, .slice (some ⟨iW, 0, none⟩) fr.length fr.length), (11, .slice pl l.length cl), (81, .int .i64 (most - 1)), (82, .int .i64 (j : Int))]) (fun (j : Nat) (pl : Option Addr) (cl : Nat) (l : List Pc) (B2 : List Pc) => LL po A0.length co A0 pl l.length cl l :: gC B2 :: Row I3 (some ⟨iW, 0, none⟩) fr.length fr.length o1 :: R :: F) (fun (j : Nat) (pl : Option Addr) (cl : Nat) (l : List Pc) (B2 : List Pc) => j + 1 ≤ most.toNat ∧ l.map pk = aJ.lv (A0.map pk) (j + 1) ∧ (∀ x ∈ A0, x ∈ B2) ∧ (∀ x ∈ l, x ∈ B2 ∧ x.n = x.s.length)) (fun (j : Nat) (pl : Option Addr) (cl : Nat) (l : List Pc) (B2 : List Pc) => most.toNat - j) (i5 (0) (po) (co) (A0) (B) ?_ (fO (aX ln)) (sub (gA .nil) ao)) ?_
                ·
                  exact ⟨by omega, aJ.Kj.symm, fun x h => (hA0B x h).1, fun x h => ⟨(hA0B x h).1, (hA0B x h).2.2⟩⟩
                intro j pl cl l B2
                rintro ⟨hj, hlP, hAB2, hlB⟩
                refine rL bE 6 rfl ?_
                refine aj rfl (fun h83 => ?_) (fun h83 => ?_)
                ·
                  refine rC bE 5 rfl ?_
                  have hbd := Ak hAbd hlP (by omega)
                  have hlm : l.length ≤ 640 := by rw [← List.length_map (f := pk), hlP]; have h1 := aJ.xQ (A0.map pk) (j + 1); rw [List.length_map] at h1; omega
                  refine rC bE 3 rfl ?_
                  refine ai (Fm pl cl l B2 17179869184 16384 (LL po A0.length co A0 pl l.length cl l) EL (by omega) (by decide) (by decide) (fun x hx => ⟨(hlB x hx).1, (hlB x hx).2, (hbd x hx).1, (hbd x hx).2.1, by have h1 := (hbd x hx).2.2; have h2 := (hlB x hx).2; omega⟩)) V.Nr  rfl (aE .nil) rfl ?_
                  rintro _ _ ⟨p2, c2, o2, B3, rfl, hB3, ho2, hP2, hl2, rfl⟩
                  refine bP (PS) [Sx.mk po A0.length co, Sx.mk p2 (l.length / 2) c2] V.AV V.MB rfl rfl rfl rfl rfl rfl ?_
                  intro Jw
                  refine Kk (A := [LL po A0.length co A0 pl l.length cl l, Row PC p2 (l.length / 2) c2 o2]) (.cons aS (.cons ar .nil)) ?_
                  refine ai (A9 (some ⟨Jw, 0, none⟩) 2 po A0.length co p2 (l.length / 2) c2 A0 o2 (lK [LL po A0.length co A0 pl l.length cl l, Row PC p2 (l.length / 2) c2 o2]) IQ JP (by omega)) V.Nc  rfl (.cons ar (au .nil)) rfl ?_
                  rintro _ _ ⟨p88, c88, rfl, rfl⟩
                  refine Fh ar ?_
                  refine rO bE 5 rfl ?_
                  refine ai (vO p88 (A0.length + l.length / 2) c88 93 [] [] (gC B3) Pc.w (fun _ => True) V.Mf (fun x y _ _ => vm x y (gC B3)) (A0 ++ o2) (by omega) (fun _ _ => trivial)) V.L8  rfl (.cons aS (.cons aS .nil)) rfl ?_
                  rintro _ _ ⟨rfl, l2, hr2, hs2, rfl⟩
                  refine rO bE 3 rfl ?_
                  have hl2e : l2.length = A0.length + l.length / 2 := by rw [hr2.len, List.length_append, hl2]
                  have hl2P := GN hLf.uK hlP hP2 (by rw [List.length_append, hl2]) hr2 hs2
                  rw [← hl2e]
                  refine cy bE 4 rfl (by omega) ?_
                  refine j5 (j + 1) p88 c88 l2 B3 ⟨⟨by omega, hl2P, fun x h => hB3 x (hAB2 x h), fun x h => ?_⟩, by omega⟩ (fO (aX ln)) ((aG (.cons aS (au .nil)) ao (fun w0 h hh => HJ hh)).trans (sub (aE (.cons ar (.cons ar .nil))) cw))
                  have hx := wY hr2 (by rw [List.length_append, hl2]) h
                  rcases List.mem_append.1 hx with hx | hx
                  · exact ⟨hB3 x (hAB2 x hx), (hA0B x hx).2.2⟩
                  · exact ho2 x hx
                ·
                  refine rC bE 7 rfl ?_
                  have hjm : j + 1 = most.toNat := by omega
                  rw [hjm] at hlP
                  have hen := aJ.va (A := A0.map pk) (most := most.toNat) (by omega) (by rw [List.length_map]; exact hA4)
                  rw [← hlP, List.length_map, List.length_map] at hen
                  obtain ⟨m2, hm2⟩ : ∃ m2, m2 = 2 * A0.length - 2 := ⟨_, rfl⟩
                  refine od (fun w hi => xD hi ak JL) (fun hcap => ?_)
                  have hlm : l.length ≤ 640 := by rw [← List.length_map (f := pk), hlP]; have h1 := aJ.xQ (A0.map pk) most.toNat; rw [List.length_map] at h1; omega
                  refine cy bE 5 rfl (by omega) ?_
                  rw [show (2 * (A0.length : Int)) - 2 = (m2 : Int) by omega]
                  refine oV (gh m2 _ V.df rfl ⟨_, rfl⟩ rfl (by omega) (by omega)) ?_
                  refine rO bE 5 rfl ?_
                  rw [show Row I3 (some ⟨iW, 0, none⟩) fr.length fr.length o1 = Row I3 (some ⟨iW, 0, none⟩) fr.length fr.length (aJ.cO fr.length (aJ.sy (l.map pk) 0)) from by rw [hj2 (by omega), ← aJ.ID]; rfl]
                  refine cx (fun (i : Nat) => [(6, .slice po A0.length co), (9, .int .i64 (A0.length : Int)), (10, .slice (some ⟨iW, 0, none⟩) fr.length fr.length), (96, .slice pl m2 cl), (97, .int .i64 (m2 : Int)), (98, .int .i64 (i : Int))]) (fun (i : Nat) => LL po A0.length co A0 pl l.length cl l :: gC B2 :: Row I3 (some ⟨iW, 0, none⟩) fr.length fr.length (aJ.cO fr.length (aJ.sy (l.map pk) i)) :: R :: F) (fun (i : Nat) => i ≤ m2) (fun (i : Nat) => m2 - i) (i1 (0) ?_ (fO (aX ln)) (sub (gA .nil) ao)) ?_
                  ·
                    exact Nat.zero_le _
                  intro i
                  rintro hi
                  refine rL bE 6 rfl ?_
                  refine aj rfl (fun h99 => ?_) (fun h99 => ?_)
                  ·
                    refine rC bE 5 rfl ?_
                    have hi2 : i < l.length := by omega
                    have hxi : PC.g (l.take m2) (i : Int) = (PC.g l (i : Int)) := by simp [Ec.g, List.getElem?_take, show i < m2 by omega]
                    have hxm : (PC.g l (i : Int)) ∈ l := sX (by rw [Int.toNat_natCast]; exact hi2)
                    have hBk := (hlB _ hxm).1
                    have hxn := (hlB _ hxm).2
                    have hx3 := Ak (j := most.toNat - 1) hAbd (by rw [hlP]; congr 1; omega) (by omega) _ hxm
                    refine aW ?_
                    refine oV (oA (c := (PC)) V.df rfl rfl (by exact (Has.take (bd EL ak) m2 (by omega))) (by omega) (by omega)) ?_
                    refine oV (dQ (c := (PC)) V.fJ rfl (by exact bd EL ak) (by omega) (by omega) rfl) ?_
                    try rw [hxi]
                    refine fR V.nm rfl ?_
                    intro mV
                    refine bM (fc V.fJ rfl rfl (us := [_, _]) rfl rfl (by exact dO) (by exact Nat.le_of_ble_eq_true rfl) rfl) ?_
                    refine rO bE 5 rfl ?_
                    refine oV (ag V.fk rfl ak rfl) ?_
                    refine rO bE 5 rfl ?_
                    rw [show Row I3 (some ⟨iW, 0, none⟩) fr.length fr.length (aJ.cO fr.length (aJ.sy (l.map pk) i)) = Row I3 (some ⟨iW, 0, none⟩) fr.length fr.length (aJ.cO fr.length (aJ.sy (l.map pk) i ++ (PC.g l (i : Int)).s.take 0)) from by rw [List.take_zero, List.append_nil]]
                    refine cx (fun (q : Nat) => [(6, .slice po A0.length co), (9, .int .i64 (A0.length : Int)), (10, .slice (some ⟨iW, 0, none⟩) fr.length fr.length), (96, .slice pl m2 cl), (97, .int .i64 (m2 : Int)), (98, .int .i64 (i : Int)), (103, .slice (PC.g l (i : Int)).p (PC.g l (i : Int)).n (PC.g l (i : Int)).c), (104, .int .i64 ((PC.g l (i : Int)).n : Int)), (105, .int .i64 (q : Int))]) (fun (q : Nat) => LL po A0.length co A0 pl l.length cl l :: gC B2 :: Row I3 (some ⟨iW, 0, none⟩) fr.length fr.length (aJ.cO fr.length (aJ.sy (l.map pk) i ++ (PC.g l (i : Int)).s.take q)) :: R :: F) (fun (q : Nat) => q ≤ (PC.g l (i : Int)).n) (fun (q : Nat) => (PC.g l (i : Int)).n - q) (i1 (0) ?_ (dI (aX ln)) (sub (.cons ar (.cons ar (.cons ar (.cons ar .nil)))) cw)) ?_
                    ·
                      exact Nat.zero_le _
                    intro q
                    rintro hq
                    refine rL bE 6 rfl ?_
                    refine aj rfl (fun h106 => ?_) (fun h106 => ?_)
                    ·
                      refine rC bE 5 rfl ?_
                      have hq2 : q < (PC.g l (i : Int)).s.length := by omega
                      have hsb := Jj hLf hsmb hlP hi2 hq2
                      have hsyl := aJ.oc (l := l.map pk) (N := 16384) (fun x hx => by obtain ⟨y, hy, rfl⟩ := List.mem_map.1 hx; exact (Ak (j := most.toNat - 1) hAbd (by rw [hlP]; congr 1; omega) (by omega) _ hy).2.2) i
                      have hcb := Kt (L := fr.length) (X := aJ.sy (l.map pk) i ++ (PC.g l (i : Int)).s.take q) (N := 100000000) (by rw [List.length_append, List.length_take]; omega) (I3.g (PC.g l (i : Int)).s (q : Int))
                      have hcl := aJ.qn fr.length (aJ.sy (l.map pk) i ++ (PC.g l (i : Int)).s.take q)
                      refine aW ?_
                      refine oV (xI V.aF (by exact bd (jm hBk) bB)) ?_
                      refine oV (xL V.s3 (by exact bd (jm hBk) bB)) ?_
                      refine rO bE 6 rfl ?_
                      refine oV (xI V.aF (own dE)) ?_
                      refine oV (xL V.s3 (own dE)) ?_
                      refine bN bE 1 rfl (by omega) ?_
                      refine oV (xI V.aF (own dE)) ?_
                      refine bM (eb (c := (I3)) (_) V.s3 rfl rfl rfl (by exact nc) (by omega) (by omega) rfl rfl) ?_
                      refine bN bE 7 rfl (by omega) ?_
                      rw [EE hq2 hsb]
                      refine j1 (q + 1) ?_ (dI (aX ln)) (sub (gA .nil) ao)
                      exact ⟨by omega, by omega⟩
                    ·
                      refine rC bE 6 rfl ?_
                      obtain rfl : q = (PC.g l (i : Int)).n := by omega
                      rw [HE hi2 hxn]
                      refine cy bE 4 rfl (by omega) ?_
                      refine j1 (i + 1) ?_ (fO (aX ln)) (sub (gA .nil) ao)
                      exact ⟨by omega, by omega⟩
                  ·
                    refine rC bE 6 rfl ?_
                    have him : i = m2 := by omega
                    rw [him]
                    refine rC bE 13 rfl ?_
                    refine eW (Row I3 none 0 0 []) (Row.nil _ _ _) ?_
                    refine eJ (fun (k : Nat) (pa : Option Addr) (ca : Nat) => [(6, .slice po A0.length co), (9, .int .i64 (A0.length : Int)), (10, .slice (some ⟨iW, 0, none⟩) fr.length fr.length), (16, .slice pa k ca), (117, .slice po A0.length co), (118, .int .i64 (A0.length : Int)), (119, .int .i64 (k : Int))]) (fun (k : Nat) (pa : Option Addr) (ca : Nat) => Row I3 pa k ca ((aJ.cs (A0.map pk) most.toNat).take k) :: LL po A0.length co A0 pl l.length cl l :: gC B2 :: Row I3 (some ⟨iW, 0, none⟩) fr.length fr.length (aJ.cO fr.length (aJ.sy (l.map pk) m2)) :: R :: F) (fun (k : Nat) (pa : Option Addr) (ca : Nat) => k ≤ A0.length) (fun (k : Nat) (pa : Option Addr) (ca : Nat) => A0.length - k) (i3 (0) (none) (0) ?_ (kr (aX ln)) (sub (lF .nil) ao)) ?_
                    ·
                      exact Nat.zero_le _
                    intro k pa ca
                    rintro hk
                    refine rL bE 6 rfl ?_
                    refine aj rfl (fun h120 => ?_) (fun h120 => ?_)
                    ·
                      refine rC bE 5 rfl ?_
                      have hk2 : k < A0.length := by omega
                      have hxm : (PC.g A0 (k : Int)) ∈ A0 := sX (by rw [Int.toNat_natCast]; exact hk2)
                      have hBk := hAB2 _ hxm
                      have hxn := (hA0B _ hxm).2.1
                      have hsm := hsmb k (by rw [List.length_map]; exact hk2)
                      have hcl := aJ.qn fr.length (aJ.sy (l.map pk) m2)
                      refine aW ?_
                      refine oV (xI V.df (by exact bd Ar bB)) ?_
                      refine oV (dQ (c := (PC)) V.fJ rfl (by exact bd Ar bB) (by omega) (by omega) rfl) ?_
                      refine fR V.nm rfl ?_
                      intro oC
                      refine bM (fc V.fJ rfl rfl (us := [_, _]) rfl rfl (by exact dO) (by exact Nat.le_of_ble_eq_true rfl) rfl) ?_
                      refine rO bE 6 rfl ?_
                      refine oV (ag V.fk rfl ak rfl) ?_
                      refine oV (xI V.aF (by exact bd (jm hBk) fZ)) ?_
                      refine oV (xL V.s3 (by exact bd (jm hBk) fZ)) ?_
                      rw [Es hk2]
                      refine oV (xI V.aF (own iz)) ?_
                      refine oV (xL V.s3 (own iz)) ?_
                      rw [hlP, MC hsm, ← hlP]
                      refine bP (I3) [(aJ.ct (A0.map pk) most.toNat m2 k : Int)] V.aF V.z3 rfl rfl rfl rfl rfl rfl ?_
                      intro Je
                      refine bQ (c := (I3)) V.aF V.z3 rfl rfl rfl rfl aS (own ak) (by omega) rfl ?_
                      intro p132 c132
                      refine bN bE 8 rfl (by omega) ?_
                      rw [show (aJ.ct (A0.map pk) most.toNat m2 k : Int) = (aJ.ct (A0.map pk) most.toNat (2 * (A0.map pk).length - 2) k : Int) from by rw [List.length_map, hm2], aJ.HI (by rw [List.length_map]; exact hk2)]
                      refine j3 (k + 1) (_) (_) ?_ (kr (aX ln)) (sub (au (.cons aS (.cons aS (.cons aS (.cons aS .nil))))) fg)
                      exact ⟨by omega, by omega⟩
                    ·
                      refine rC bE 6 rfl ?_
                      obtain rfl : k = A0.length := by omega
                      have hcsl : (aJ.cs (A0.map pk) most.toNat).length = A0.length := by rw [aJ.mr, List.length_map]
                      rw [List.take_of_length_le (Nat.le_of_eq hcsl)]
                      refine rC bE 2 rfl ?_
                      refine ai (G2 pa A0.length ca (aJ.cs (A0.map pk) most.toNat) (by omega) (by omega)) V.Nw  rfl (au .nil) rfl ?_
                      rintro _ _ ⟨rfl, rfl⟩
                      refine rO bE 11 rfl ?_
                      refine cx (fun (k : Nat) => [(9, .int .i64 (A0.length : Int)), (10, .slice (some ⟨iW, 0, none⟩) fr.length fr.length), (16, .slice pa A0.length ca), (136, .slice po A0.length co), (137, .int .i64 (A0.length : Int)), (138, .int .i64 (k : Int))]) (fun (k : Nat) => Row I3 pa A0.length ca ((aJ.cs (A0.map pk) most.toNat).mergeSort fun x y => decide (x ≤ y)) :: LL po A0.length co A0 pl l.length cl l :: gC B2 :: Row I3 (some ⟨iW, 0, none⟩) fr.length fr.length (aJ.gI (aJ.sm (A0.map pk)) (fun i => ((aJ.cs (A0.map pk) most.toNat).mergeSort fun x y => decide (x ≤ y)).getD ((A0.map pk).length - 1 - i) 0) (aJ.cO fr.length (aJ.sy (l.map pk) m2)) k) :: R :: F) (fun (k : Nat) => k ≤ A0.length) (fun (k : Nat) => A0.length - k) (i1 (0) ?_ (fO (aX ln)) (sub (lF .nil) ao)) ?_
                      ·
                        exact Nat.zero_le _
                      intro k
                      rintro hk
                      refine rL bE 6 rfl ?_
                      refine aj rfl (fun h139 => ?_) (fun h139 => ?_)
                      ·
                        refine rC bE 5 rfl ?_
                        have hk2 : k < A0.length := by omega
                        have hxm : (PC.g A0 (k : Int)) ∈ A0 := sX (by rw [Int.toNat_natCast]; exact hk2)
                        have hBk := hAB2 _ hxm
                        have hxn := (hA0B _ hxm).2.1
                        have hsm := hsmb k (by rw [List.length_map]; exact hk2)
                        rw [← Es hk2] at hsm
                        refine rC bE 2 rfl ?_
                        refine oV (xI V.df (by exact bd Ar bB)) ?_
                        refine oV (dQ (c := (PC)) V.fJ rfl (by exact bd Ar bB) (by omega) (by omega) rfl) ?_
                        refine fR V.nm rfl ?_
                        intro Bq
                        refine oV (cE rfl) ?_
                        refine bM (fc V.fJ rfl rfl (us := [_, _]) rfl rfl (by exact dO) (by exact Nat.le_of_ble_eq_true rfl) rfl) ?_
                        refine rO bE 2 rfl ?_
                        refine wN [pz 0 [] [10], pz 0 [] [20], pz 2 [1] [], pz 6 [2] [], pz 14 [3] [], pz 0 [] [16], pz 0 [] [9], pz 64 [6] [], pz 0 [] [19], pz 448 [7, 8] [], pz 992 [5, 9] [], pz 2016 [10] [], pz 4095 [0, 4] [], pz 8191 [12, 11] []] [⟨fun y => av Bq 136 [.int .i64 (PC.g A0 (k : Int)).w, .slice (PC.g A0 (k : Int)).p (PC.g A0 (k : Int)).n (PC.g A0 (k : Int)).c], none, none, [2]⟩, ⟨fun y => Row I3 pa A0.length ca ((aJ.cs (A0.map pk) most.toNat).mergeSort fun x y => decide (x ≤ y)), none, none, [10, 11]⟩, ⟨fun y => LL po A0.length co A0 pl l.length cl l, none, none, []⟩, ⟨fun y => gC B2, none, none, [3, 4]⟩, ⟨fun y => Row I3 (some ⟨iW, 0, none⟩) fr.length fr.length (aJ.gI (aJ.sm (A0.map pk)) (fun i => ((aJ.cs (A0.map pk) most.toNat).mergeSort fun x y => decide (x ≤ y)).getD ((A0.map pk).length - 1 - i) 0) (aJ.cO fr.length (aJ.sy (l.map pk) m2)) k), none, some 13, [12]⟩, ⟨fun y => R, none, none, []⟩, ⟨fun y => Row I3 (some ⟨iW, 0, none⟩) fr.length fr.length ((aJ.gI (aJ.sm (A0.map pk)) (fun i => ((aJ.cs (A0.map pk) most.toNat).mergeSort fun x y => decide (x ≤ y)).getD ((A0.map pk).length - 1 - i) 0) (aJ.cO fr.length (aJ.sy (l.map pk) m2)) k).set ((I3).g ((PC.g A0 (k : Int)).s) 0).toNat ((I3).g ((aJ.cs (A0.map pk) most.toNat).mergeSort fun x y => decide (x ≤ y)) (((A0.length : Int) - 1) - (k : Int)))), some 13, none, []⟩] F V.mixed ?_
                        refine nM ?_
                        refine nG V.sM ?_
                        refine nR (fun y FF hA => ag V.fk rfl ak rfl) ?_
                        refine nR (fun y FF hA => xI V.aF (by exact bd (jm hBk) ak)) ?_
                        refine nR (fun y FF hA => xL V.s3 (by exact bd (jm hBk) ak)) ?_
                        iterate 2 refine nM ?_
                        refine nV (fun y hA L => dD rfl rfl wI) ?_
                        refine nM ?_
                        refine nV (fun y hA L => dD rfl rfl wI) ?_
                        refine nR (fun y FF hA => xI V.aF (own ak)) ?_
                        refine nR (fun y FF hA => xL V.s3 (own ak)) ?_
                        refine nR (fun y FF hA => xI V.aF (own ak)) ?_
                        refine nE (fun y FF hA => cu (eb (c := (I3)) (_) V.s3 rfl rfl rfl (by exact dO) (by omega) (by omega) rfl rfl) ⟨rfl, .refl _⟩) ?_
                        refine aM ?_
                        intro y hA
                        clear hA
                        refine rN bE 2 rfl ?_
                        refine bW [(9, .int .i64 (A0.length : Int)), (10, .slice (some ⟨iW, 0, none⟩) fr.length fr.length), (16, .slice pa A0.length ca), (136, .slice po A0.length co), (137, .int .i64 (A0.length : Int)), (138, .int .i64 (k : Int))] (.cons (d := 9) rfl (.cons (d := 10) rfl (.cons (d := 16) rfl (.cons (d := 136) rfl (.cons (d := 137) rfl (.cons (d := 138) rfl (.nil _))))))) ?_
                        refine bR (M := av Bq 136 [.int .i64 (PC.g A0 (k : Int)).w, .slice (PC.g A0 (k : Int)).p (PC.g A0 (k : Int)).n (PC.g A0 (k : Int)).c] :: Row I3 pa A0.length ca ((aJ.cs (A0.map pk) most.toNat).mergeSort fun x y => decide (x ≤ y)) :: LL po A0.length co A0 pl l.length cl l :: gC B2 :: R :: Row I3 (some ⟨iW, 0, none⟩) fr.length fr.length ((aJ.gI (aJ.sm (A0.map pk)) (fun i => ((aJ.cs (A0.map pk) most.toNat).mergeSort fun x y => decide (x ≤ y)).getD ((A0.map pk).length - 1 - i) 0) (aJ.cO fr.length (aJ.sy (l.map pk) m2)) k).set ((I3).g ((PC.g A0 (k : Int)).s) 0).toNat ((I3).g ((aJ.cs (A0.map pk) most.toNat).mergeSort fun x y => decide (x ≤ y)) (((A0.length : Int) - 1) - (k : Int)))) :: F) (fun _ _ h => h) ?_
                        refine cy bE 4 rfl (by omega) ?_
                        rw [FA hk2]
                        refine j1 (k + 1) ?_ (fO (aX ln)) (sub (.cons ar (.cons ar (.cons ar (.cons aS (.cons ar .nil))))) cw)
                        exact ⟨by omega, by omega⟩
                      ·
                        refine rC bE 13 rfl ?_
                        obtain rfl : k = (A0.map pk).length := by rw [List.length_map]; omega
                        have em2 : 2 * (A0.map pk).length - 2 = m2 := by rw [List.length_map, hm2]
                        have hg := aJ.Cj hss (most := most.toNat) (by omega) (by omega) (by omega) (by rw [List.length_map]; exact hA2) (by rw [List.length_map]; exact hA4)
                        rw [← aJ.JS hLf hsmb, em2, ← hlP] at hg
                        exact an (bT rfl rfl) (.inr ⟨hOk, iW, _, rfl, hg, rfl⟩) (sub (.cons dC (.cons dC .nil)) jj)
end Go.Proofs.YtmbljkghkcgejaaGreat

/-
  Steps of the proof: walks of functions that the statement reaches; printed by a program of ours.
-/
import Derived.Test.YthmgkggpipnalaaSl22
import Derived.KernelRfl
import Derived.Test.YthmgkggpipnalaaDfA
import Derived.Test.YthmgkggpipnalaaM31
import Derived.Test.YthmgkggpipnalaaM38
import Derived.Test.YthmgkggpipnalaaM33
namespace Go.Proofs.Ythmgkggpipnalaa
open Go.Sl 
set_option linter.unusedVariables false
theorem TTDfB : okT Try.prog ⟨[68], [(79, 0, 0), (79, 1, 1), (79, 2, 2), (90, 0, 0), (90, 1, 1), (90, 2, 2)]⟩ = true := by kernel_rfl
set_option linter.unusedSimpArgs false

attribute [local irreducible] DefP.mre DefP.mreGo DefP.lnSm DefP.lnMo DefP.lnRe DefP.dsSm DefP.dsMo DefP.dsRe DefP.tokB DefP.toksB HuffP.newE HuffP.wb HuffP.ord HuffP.cntL HuffP.words HuffP.mostL HuffP.lkW HuffP.lkN HuffP.lkB

set_option maxHeartbeats 1000000 in
set_option maxRecDepth 100000 in
theorem k_length (n : Int) (hn : 3 ≤ n ∧ n ≤ 258) : Ctr Try.prog 50 [.int .i64 n] [] (Ret fun v G => v = .tuple #[.int .i64 (DefP.lnSm n), .int .i64 (DefP.lnMo n : Int), .int .i64 (DefP.lnRe n)] ∧ G = []) := by
  refine spec_of [(0, _)] Try.func50 rfl Try.ntmps50 rfl rfl ?_
  intro w0 F
  refine rTs TTDfB 23 rfl (by omega) ?_
  refine w_condD rfl (fun h7 => ?_) (fun h7 => ?_)
  ·
    refine rC TTDfB 10 rfl ?_
    have e1 : DefP.lnSm n = 285 := by unfold DefP.lnSm; rw [if_pos (by omega)]
    have e2 : DefP.lnMo n = 0 := by unfold DefP.lnMo; rw [if_pos (by omega)]
    have e3 : DefP.lnRe n = 0 := by unfold DefP.lnRe; rw [if_pos (by omega)]
    rw [e1, e2, e3]
    exact ret_ok (G := []) (res3 rfl rfl rfl) ⟨rfl, rfl⟩ (sub .nil (by exact dd0))
  ·
    refine rC TTDfB 7 rfl ?_
    refine w_condD rfl (fun h10 => ?_) (fun h10 => ?_)
    ·
      refine rCs TTDfB 12 rfl (by omega) ?_
      have e1 : DefP.lnSm n = 257 + (n - 3) := by unfold DefP.lnSm; rw [if_neg (by omega), if_pos (by omega)]
      have e2 : DefP.lnMo n = 0 := by unfold DefP.lnMo; rw [if_neg (by omega), if_pos (by omega)]
      have e3 : DefP.lnRe n = 0 := by unfold DefP.lnRe; rw [if_neg (by omega), if_pos (by omega)]
      rw [e1, e2, e3]
      exact ret_ok (G := []) (res3 rfl rfl rfl) ⟨rfl, rfl⟩ (sub .nil (by exact dd0))
    ·
      refine rC TTDfB 5 rfl ?_
      refine w_loop1 (fun (k : Nat) => [(0, .int .i64 (n - 3)), (3, .int .i64 (k : Int))]) (fun (k : Nat) => F) (fun (k : Nat) => k ≤ 14 ∧ DefP.mre 8 (n - 3) = DefP.mreGo 8 (n - 3) (16 - k) k) (fun (k : Nat) => 16 - k) (i1 (0) ?_ (.cons rfl (.cons rfl (.nil _))) (sub .nil (by exact dd0))) ?_
      ·
        exact ⟨by omega, by unfold DefP.mre; rfl⟩
      intro k
      rintro ⟨hk, hk2⟩
      refine rL TTDfB 5 rfl ?_
      refine o_val (v_shr (r := (n - 3) / 2 ^ k) rfl rfl (by omega) (BitP.shrI (by omega) rfl)) rfl ?_
      refine rO TTDfB 3 rfl ?_
      refine w_condD rfl (fun h18 => ?_) (fun h18 => ?_)
      ·
        refine rCs TTDfB 9 rfl (by omega) ?_
        have hk13 : k < 13 := by
          rcases Nat.lt_or_ge k 13 with h1 | h1
          · exact h1
          · have := DefP.div_le (x := (n - 3)) (by omega) h1; omega
        refine j1 (k + 1) ?_ (.cons rfl (.cons rfl (.nil _))) (sub .nil (by exact dd0))
        exact ⟨⟨by omega, hk2.trans (DefP.mreGo_next (by omega) (by omega))⟩, by omega⟩
      ·
        refine rC TTDfB 6 rfl ?_
        have hM := DefP.mre_ok (lim := 8) (x := (n - 3)) (by decide) (by omega)
        have hkm : DefP.mre 8 (n - 3) = k := hk2.trans (DefP.mreGo_end (by omega) _)
        have hk13 := hM.le
        rw [hkm] at hk13
        have hp13 := DefP.pow_le13 hk13
        have hqb : 0 ≤ (n - 3) / 2 ^ k := Int.ediv_nonneg (by omega) (by omega)
        have hqc : (n - 3) / 2 ^ k ≤ (n - 3) := Int.ediv_le_self _ (by omega)
        refine w_rd V.mixed (by kernel_rfl) ?_
        refine rRs TTDfB 5 rfl (by omega) ?_
        refine Rg.o_val (v_shr (r := (n - 3) / 2 ^ k) rfl rfl (by omega) (BitP.shrI (by omega) rfl)) rfl rfl ?_
        refine rRs TTDfB 4 rfl (by omega) ?_
        refine Rg.o_val (v_shl (r := 2 ^ k) rfl rfl (by omega) (DefP.shl_1 (by omega))) rfl rfl ?_
        refine rRs TTDfB 1 rfl (by omega) ?_
        refine Rg.o_val (v_and (r := (n - 3) % 2 ^ k) rfl rfl (DefP.and_low (by omega) (by omega))) rfl rfl ?_
        refine rR TTDfB 3 rfl ?_
        refine Rg.o_nil ?_
        refine rN TTDfB 2 rfl ?_
        have e1 : DefP.lnSm n = 257 + 4 * (k : Int) + (n - 3) / 2 ^ k := by unfold DefP.lnSm; rw [if_neg (by omega), if_neg (by omega), hkm]
        have e2 : DefP.lnMo n = k := by unfold DefP.lnMo; rw [if_neg (by omega), if_neg (by omega), hkm]
        have e3 : DefP.lnRe n = (n - 3) % 2 ^ k := by unfold DefP.lnRe; rw [if_neg (by omega), if_neg (by omega), hkm]
        rw [e1, e2, e3]
        exact ret_ok (G := []) (res3 rfl rfl rfl) ⟨rfl, rfl⟩ (sub .nil (by exact dd0))

set_option maxHeartbeats 1000000 in
set_option maxRecDepth 100000 in
theorem k_away (n : Int) (hn : 1 ≤ n ∧ n ≤ 32768) : Ctr Try.prog 51 [.int .i64 n] [] (Ret fun v G => v = .tuple #[.int .i64 (DefP.dsSm n), .int .i64 (DefP.dsMo n : Int), .int .i64 (DefP.dsRe n)] ∧ G = []) := by
  refine spec_of [(0, _)] Try.func51 rfl Try.ntmps51 rfl rfl ?_
  intro w0 F
  refine rTs TTDfB 21 rfl (by omega) ?_
  refine w_condD rfl (fun h8 => ?_) (fun h8 => ?_)
  ·
    refine rC TTDfB 10 rfl ?_
    have e1 : DefP.dsSm n = n - 1 := by unfold DefP.dsSm; rw [if_pos (by omega)]
    have e2 : DefP.dsMo n = 0 := by unfold DefP.dsMo; rw [if_pos (by omega)]
    have e3 : DefP.dsRe n = 0 := by unfold DefP.dsRe; rw [if_pos (by omega)]
    rw [e1, e2, e3]
    exact ret_ok (G := []) (res3 rfl rfl rfl) ⟨rfl, rfl⟩ (sub .nil (by exact dd0))
  ·
    refine rC TTDfB 4 rfl ?_
    refine w_loop1 (fun (k : Nat) => [(0, .int .i64 (n - 1)), (3, .int .i64 (k : Int))]) (fun (k : Nat) => F) (fun (k : Nat) => k ≤ 14 ∧ DefP.mre 4 (n - 1) = DefP.mreGo 4 (n - 1) (16 - k) k) (fun (k : Nat) => 16 - k) (i1 (0) ?_ (.cons rfl (.cons rfl (.nil _))) (sub .nil (by exact dd0))) ?_
    ·
      exact ⟨by omega, by unfold DefP.mre; rfl⟩
    intro k
    rintro ⟨hk, hk2⟩
    refine rL TTDfB 5 rfl ?_
    refine o_val (v_shr (r := (n - 1) / 2 ^ k) rfl rfl (by omega) (BitP.shrI (by omega) rfl)) rfl ?_
    refine rO TTDfB 3 rfl ?_
    refine w_condD rfl (fun h13 => ?_) (fun h13 => ?_)
    ·
      refine rCs TTDfB 9 rfl (by omega) ?_
      have hk13 : k < 13 := by
        rcases Nat.lt_or_ge k 13 with h1 | h1
        · exact h1
        · have := DefP.div_le (x := (n - 1)) (by omega) h1; omega
      refine j1 (k + 1) ?_ (.cons rfl (.cons rfl (.nil _))) (sub .nil (by exact dd0))
      exact ⟨⟨by omega, hk2.trans (DefP.mreGo_next (by omega) (by omega))⟩, by omega⟩
    ·
      refine rC TTDfB 6 rfl ?_
      have hM := DefP.mre_ok (lim := 4) (x := (n - 1)) (by decide) (by omega)
      have hkm : DefP.mre 4 (n - 1) = k := hk2.trans (DefP.mreGo_end (by omega) _)
      have hk13 := hM.le
      rw [hkm] at hk13
      have hp13 := DefP.pow_le13 hk13
      have hqb : 0 ≤ (n - 1) / 2 ^ k := Int.ediv_nonneg (by omega) (by omega)
      have hqc : (n - 1) / 2 ^ k ≤ (n - 1) := Int.ediv_le_self _ (by omega)
      refine w_rd V.mixed (by kernel_rfl) ?_
      refine rRs TTDfB 4 rfl (by omega) ?_
      refine Rg.o_val (v_shr (r := (n - 1) / 2 ^ k) rfl rfl (by omega) (BitP.shrI (by omega) rfl)) rfl rfl ?_
      refine rRs TTDfB 4 rfl (by omega) ?_
      refine Rg.o_val (v_shl (r := 2 ^ k) rfl rfl (by omega) (DefP.shl_1 (by omega))) rfl rfl ?_
      refine rRs TTDfB 1 rfl (by omega) ?_
      refine Rg.o_val (v_and (r := (n - 1) % 2 ^ k) rfl rfl (DefP.and_low (by omega) (by omega))) rfl rfl ?_
      refine rR TTDfB 3 rfl ?_
      refine Rg.o_nil ?_
      refine rN TTDfB 2 rfl ?_
      have e1 : DefP.dsSm n = 2 * (k : Int) + (n - 1) / 2 ^ k := by unfold DefP.dsSm; rw [if_neg (by omega), hkm]
      have e2 : DefP.dsMo n = k := by unfold DefP.dsMo; rw [if_neg (by omega), hkm]
      have e3 : DefP.dsRe n = (n - 1) % 2 ^ k := by unfold DefP.dsRe; rw [if_neg (by omega), hkm]
      rw [e1, e2, e3]
      exact ret_ok (G := []) (res3 rfl rfl rfl) ⟨rfl, rfl⟩ (sub .nil (by exact dd0))

set_option maxRecDepth 100000 in
theorem k_row (x : Int) (n : Nat) (hn : n ≤ 1000) : Ctr Try.prog 38 [.int .i64 x, .int .i64 (n : Int)] [] (Ret fun v G => ∃ q c, v = .slice q n c ∧ G = [Row I3 q n c (List.replicate n x)]) := by
  refine spec_of [(0, _), (1, _)] Try.func38 rfl Try.ntmps38 rfl rfl ?_
  intro w0 F
  refine rT TTDfB 18 rfl ?_
  refine w_add0 (Row I3 none 0 0 (List.replicate 0 x)) (Row.nil _ _ _) ?_
  refine w_loop3 (fun (k : Nat) (q : Option Addr) (c : Nat) => [(0, .int .i64 x), (5, .slice q k c), (6, .int .i64 (n : Int)), (7, .int .i64 (k : Int))]) (fun (k : Nat) (q : Option Addr) (c : Nat) => Row I3 q k c (List.replicate k x) :: F) (fun (k : Nat) (q : Option Addr) (c : Nat) => k ≤ n) (fun (k : Nat) (q : Option Addr) (c : Nat) => n - k) (i3 (0) (none) (0) ?_ (.cons rfl (.cons rfl (.cons rfl (.cons rfl (.nil _))))) (sub (.cons (by exact rr0) .nil) (by exact dd0))) ?_
  ·
    exact Nat.zero_le _
  intro k q c
  rintro hk
  refine rL TTDfB 6 rfl ?_
  refine w_condD rfl (fun h8 => ?_) (fun h8 => ?_)
  ·
    refine rC TTDfB 7 rfl ?_
    refine r_build (I3) [x] V.sl34 V.z3 rfl rfl rfl rfl rfl rfl ?_
    intro b11
    refine r_append (c := (I3)) V.sl34 V.z3 rfl rfl rfl rfl (by exact rr1) (by exact own mm0) (by omega) rfl ?_
    intro p12 c12
    refine rOs TTDfB 8 rfl (by omega) ?_
    rw [show List.replicate k x ++ [x] = List.replicate (k + 1) x from List.replicate_succ'.symm]
    refine j3 (k + 1) (_) (_) ?_ (.cons rfl (.cons rfl (.cons rfl (.cons rfl (.nil _))))) (sub (.cons (by exact rr0) .nil) (by exact dd1))
    exact ⟨by omega, by omega⟩
  ·
    refine rC TTDfB 12 rfl ?_
    obtain rfl : k = n := by omega
    exact ret_ok (G := [Row I3 q k c (List.replicate k x)]) (res1 rfl) ⟨q, c, rfl, rfl⟩ (sub (.cons (by exact rr0) .nil) (by exact dd0))

set_option maxRecDepth 100000 in
theorem k_order  : Ctr Try.prog 44 [] [] (Ret fun v G => ∃ q, v = .slice (some ⟨q, 0, none⟩) 19 19 ∧ G = [Row I3 (some ⟨q, 0, none⟩) 19 19 InfP.ordr]) := by
  refine spec_of [] Try.func44 rfl Try.ntmps44 rfl rfl ?_
  intro w0 F
  refine rT TTDfB 7 rfl ?_
  refine r_build (I3) [16, 17, 18, 0, 8, 7, 9, 6, 10, 5, 11, 4, 12, 3, 13, 2, 14, 1, 15] V.sl34 V.z3 rfl rfl rfl rfl rfl rfl ?_
  intro b1
  refine rO TTDfB 4 rfl ?_
  exact ret_ok (G := [Row I3 (some ⟨b1, 0, none⟩) 19 19 InfP.ordr]) (res1 rfl) ⟨b1, rfl, rfl⟩ (sub (.cons (by exact rr0) .nil) (by exact dd0))

set_option maxHeartbeats 4000000 in
set_option maxRecDepth 100000 in
theorem k_write (bl : Nat) (pa : Option Addr) (a : List Int) (ca : Nat) (pd : Option Addr) (d : List Int) (cd : Nat) (q : Option Addr) (cq : Nat) (l : List DefP.Tok) (bs : List Int) (RT RA RD : HProp) (hRT : ∀ w0 h, RT w0 h → RdR TK q l.length l w0 h) (hRA : ∀ w0 h, RA w0 h → RdR I3 pa a.length a w0 h) (hRD : ∀ w0 h, RD w0 h → RdR I3 pd d.length d w0 h) (hEa : HuffP.newE a = 0) (hEd : HuffP.newE d = 0) (hF : DefP.Fits a d l) (hl : l.length ≤ 4194304) (hb : bs.length ≤ 20000) : Ctr Try.prog 40 [.agg #[.pointer (some ⟨bl, 0, none⟩), .slice pa a.length ca, .slice pd d.length cd], .slice q l.length cq] [WB bl bs, RT, RA, RD] (Ret fun v G => v = .tuple #[] ∧ G = [WB bl (bs ++ (DefP.toksB a d l ++ HuffP.wb a 256)), RT, RA, RD]) := by
  refine spec_of [(0, _), (1, _)] Try.func40 rfl Try.ntmps40 rfl rfl ?_
  intro w0 F
  have hVa := (HuffP.newE_vl hEa).1
  have hVd := (HuffP.newE_vl hEd).1
  refine rT TTDfB 2 rfl ?_
  refine o_box rfl (cs := [_, _, _]) rfl rfl ?_
  intro b2
  refine rO TTDfB 5 rfl ?_
  refine o_val (v_load V.s34 rfl (by exact mm0) rfl) rfl ?_
  refine o_call (h_new_yes pa ca a RA hRA hEa) V.b45  rfl (.cons (by exact rr3) .nil) rfl ?_
  rintro _ _ ⟨ha, rfl, rfl⟩
  refine rO TTDfB 10 rfl ?_
  refine o_val (v_load V.s34 rfl (by exact mm2) rfl) rfl ?_
  refine o_call (h_new_yes pd cd d RD hRD hEd) V.b45  rfl (.cons (by exact rr5) .nil) rfl ?_
  rintro _ _ ⟨hd, rfl, rfl⟩
  refine rO TTDfB 16 rfl ?_
  rw [show WB bl bs = WB bl (bs ++ DefP.toksB a d (l.take 0)) from by rw [DefP.toksB_nil, List.append_nil]]
  refine w_loop1 (fun (k : Nat) => [(2, .pointer (some ⟨b2, 0, none⟩)), (4, .pointer (some ⟨ha, 0, none⟩)), (6, .pointer (some ⟨hd, 0, none⟩)), (25, .slice q l.length cq), (26, .int .i64 (l.length : Int)), (27, .int .i64 (k : Int))]) (fun (k : Nat) => WB bl (bs ++ (DefP.toksB a d (l.take k))) :: HC ha a :: HC hd d :: Cel b2 90 [.pointer (some ⟨bl, 0, none⟩), .slice pa a.length ca, .slice pd d.length cd] :: RT :: RA :: RD :: F) (fun (k : Nat) => k ≤ l.length) (fun (k : Nat) => l.length - k) (i1 (0) ?_ (.cons rfl (.cons rfl (.cons rfl (.cons rfl (.cons rfl (.cons rfl (.nil _))))))) (sub (.cons (by exact rr5) (.cons (by exact rr2) (.cons (by exact rr0) (.cons (by exact rr2) (.cons (by exact rr2) (.cons (by exact rr1) (.cons (by exact rr0) .nil))))))) (by exact dd0))) ?_
  ·
    exact Nat.zero_le _
  intro k
  rintro hk
  refine rL TTDfB 6 rfl ?_
  refine w_condD rfl (fun h28 => ?_) (fun h28 => ?_)
  ·
    refine rC TTDfB 5 rfl ?_
    have hk2 : k < l.length := by omega
    have hxe : (TK.g l (k : Int)) = l[k] := by simp [Ec.g, hk2]
    have hxm : (TK.g l (k : Int)) ∈ l := by rw [hxe]; exact List.getElem_mem hk2
    have hto := hF.ok _ hxm
    have hor := hto.or_
    have hnx := DefP.toksB_next (ls := a) (ds := d) hk2
    have htl := DefP.toksB_len hVa hVd (l := l.take k) (fun t ht => hF.ok t (List.mem_of_mem_take ht))
    rw [List.length_take] at htl
    refine w_region ?_
    refine o_val (r_index (c := (TK)) V.sl68 rfl rfl (by exact rdH hRT mm4) (by omega) (by omega)) rfl ?_
    refine o_val (r_loadA (c := (TK)) V.a79 rfl (by exact rdH hRT mm4) (by omega) (by omega) rfl) rfl ?_
    refine o_alloc V.z79 rfl ?_
    intro b9
    refine o_eff (v_storeAgg V.a79 rfl rfl (us := [_, _, _]) rfl rfl (by exact pp0) (by exact Nat.le_of_ble_eq_true rfl) rfl) ?_
    refine rO TTDfB 6 rfl ?_
    refine o_val (v_load V.s3 rfl (by exact mm0) rfl) rfl ?_
    refine rO TTDfB 3 rfl ?_
    refine w_condD rfl (fun h33 => ?_) (fun h33 => ?_)
    ·
      refine rC TTDfB 4 rfl ?_
      refine o_val (v_load V.s84 rfl (by exact mm4) rfl) rfl ?_
      refine o_val (v_fieldAddr V.f79_0 rfl) rfl ?_
      refine o_val (v_load V.s3 rfl (by exact mm0) rfl) rfl ?_
      refine o_call (h_put_yes ha a bl (bs ++ (DefP.toksB a d (l.take k))) (TK.g l (k : Int)).lit hEa (hF.lit _ hxm h33).2 (by rw [List.length_append]; omega)) V.b46  rfl (.cons (by exact rr2) (.cons (by exact rr1) .nil)) rfl ?_
      rintro _ _ ⟨rfl, rfl⟩
      refine rOs TTDfB 10 rfl (by omega) ?_
      (rw [List.append_assoc, show HuffP.wb a (TK.g l (k : Int)).lit = DefP.tokB a d l[k] from by rw [← hxe, DefP.tokB_lit h33], hnx]; exact j1 (k + 1) ⟨by omega, by omega⟩ (.cons rfl (.cons rfl (.cons rfl (.cons rfl (.cons rfl (.cons rfl (.nil _))))))) (sub (.cons (by exact rr1) (.cons (by exact rr0) (.cons (by exact rr1) (.cons (by exact rr1) (.cons (by exact rr1) (.cons (by exact rr1) (.cons (by exact rr1) .nil))))))) (by exact dd1)))
    ·
      refine rC TTDfB 3 rfl ?_
      have hcp := hF.cp _ hxm h33
      have hln := DefP.ln_ok (n := (TK.g l (k : Int)).n) (by omega)
      have hds := DefP.ds_ok (f := (TK.g l (k : Int)).far) (by omega)
      have hp1 := DefP.pow_le13 hln.2.2.2.2.2.2
      have hp2 := DefP.pow_le13 hds.2.2.2.2.2.2
      have hw1 : (HuffP.wb a (DefP.lnSm (TK.g l (k : Int)).n)).length ≤ 15 := by rw [HuffP.wb_len]; have := HuffP.lkN_le hVa (DefP.lnSm (TK.g l (k : Int)).n); omega
      have hw2 : (HuffP.wb d (DefP.dsSm (TK.g l (k : Int)).far)).length ≤ 15 := by rw [HuffP.wb_len]; have := HuffP.lkN_le hVd (DefP.dsSm (TK.g l (k : Int)).far); omega
      refine rC TTDfB 2 rfl ?_
      refine o_val (v_load V.s3 rfl (by exact mm0) rfl) rfl ?_
      refine o_call (k_length (TK.g l (k : Int)).n (by omega)) V.b50  rfl .nil rfl ?_
      rintro _ _ ⟨rfl, rfl⟩
      refine rO TTDfB 13 rfl ?_
      refine o_val (v_load V.s84 rfl (by exact mm4) rfl) rfl ?_
      refine o_val (v_move rfl) rfl ?_
      refine o_call (h_put_yes ha a bl (bs ++ (DefP.toksB a d (l.take k))) (DefP.lnSm (TK.g l (k : Int)).n) hEa hcp.2.1 (by rw [List.length_append]; omega)) V.b46  rfl (.cons (by exact rr2) (.cons (by exact rr1) .nil)) rfl ?_
      rintro _ _ ⟨rfl, rfl⟩
      refine rO TTDfB 5 rfl ?_
      refine o_val (v_load V.s84 rfl (by exact mm4) rfl) rfl ?_
      refine rO TTDfB 2 rfl ?_
      refine o_call (c_put bl (bs ++ (DefP.toksB a d (l.take k)) ++ HuffP.wb a (DefP.lnSm (TK.g l (k : Int)).n)) (DefP.lnRe (TK.g l (k : Int)).n) (DefP.lnMo (TK.g l (k : Int)).n) ⟨hln.2.2.2.2.1, by omega⟩ (by omega) (by simp only [List.length_append]; omega)) V.b39  rfl (.cons (by exact rr1) .nil) rfl ?_
      rintro _ _ ⟨rfl, rfl⟩
      refine rO TTDfB 5 rfl ?_
      refine o_val (v_load V.s3 rfl (by exact mm2) rfl) rfl ?_
      refine o_call (k_away (TK.g l (k : Int)).far (by omega)) V.b51  rfl .nil rfl ?_
      rintro _ _ ⟨rfl, rfl⟩
      refine rO TTDfB 13 rfl ?_
      refine o_val (v_load V.s84 rfl (by exact mm4) rfl) rfl ?_
      refine o_val (v_move rfl) rfl ?_
      refine o_call (h_put_yes hd d bl (bs ++ (DefP.toksB a d (l.take k)) ++ HuffP.wb a (DefP.lnSm (TK.g l (k : Int)).n) ++ BitP.lowB (DefP.lnRe (TK.g l (k : Int)).n) (DefP.lnMo (TK.g l (k : Int)).n)) (DefP.dsSm (TK.g l (k : Int)).far) hEd hcp.2.2.2 (by simp only [List.length_append, BitP.lowB_len]; omega)) V.b46  rfl (.cons (by exact rr3) (.cons (by exact rr0) .nil)) rfl ?_
      rintro _ _ ⟨rfl, rfl⟩
      refine rO TTDfB 4 rfl ?_
      refine o_val (v_load V.s84 rfl (by exact mm4) rfl) rfl ?_
      refine rO TTDfB 2 rfl ?_
      refine o_call (c_put bl (bs ++ (DefP.toksB a d (l.take k)) ++ HuffP.wb a (DefP.lnSm (TK.g l (k : Int)).n) ++ BitP.lowB (DefP.lnRe (TK.g l (k : Int)).n) (DefP.lnMo (TK.g l (k : Int)).n) ++ HuffP.wb d (DefP.dsSm (TK.g l (k : Int)).far)) (DefP.dsRe (TK.g l (k : Int)).far) (DefP.dsMo (TK.g l (k : Int)).far) ⟨hds.2.2.2.2.1, by omega⟩ (by omega) (by simp only [List.length_append, BitP.lowB_len]; omega)) V.b39  rfl (.cons (by exact rr1) .nil) rfl ?_
      rintro _ _ ⟨rfl, rfl⟩
      refine rOs TTDfB 7 rfl (by omega) ?_
      (rw [show bs ++ (DefP.toksB a d (l.take k)) ++ HuffP.wb a (DefP.lnSm (TK.g l (k : Int)).n) ++ BitP.lowB (DefP.lnRe (TK.g l (k : Int)).n) (DefP.lnMo (TK.g l (k : Int)).n) ++ HuffP.wb d (DefP.dsSm (TK.g l (k : Int)).far) ++ BitP.lowB (DefP.dsRe (TK.g l (k : Int)).far) (DefP.dsMo (TK.g l (k : Int)).far) = bs ++ ((DefP.toksB a d (l.take k)) ++ DefP.tokB a d l[k]) from by rw [← hxe, DefP.tokB_cp h33]; simp only [List.append_assoc], hnx]; exact j1 (k + 1) ⟨by omega, by omega⟩ (.cons rfl (.cons rfl (.cons rfl (.cons rfl (.cons rfl (.cons rfl (.nil _))))))) (sub (.cons (by exact rr0) (.cons (by exact rr1) (.cons (by exact rr0) (.cons (by exact rr1) (.cons (by exact rr1) (.cons (by exact rr1) (.cons (by exact rr1) .nil))))))) (by exact dd1)))
  ·
    refine rC TTDfB 5 rfl ?_
    obtain rfl : k = l.length := by omega
    rw [List.take_length]
    have htl := DefP.toksB_len hVa hVd (l := l) hF.ok
    refine rC TTDfB 3 rfl ?_
    refine o_val (v_load V.s84 rfl (by exact mm3) rfl) rfl ?_
    refine o_call (h_put_yes ha a bl (bs ++ DefP.toksB a d l) 256 hEa hF.end_.2 (by rw [List.length_append]; omega)) V.b46  rfl (.cons (by exact rr1) (.cons (by exact rr0) .nil)) rfl ?_
    rintro _ _ ⟨rfl, rfl⟩
    refine o_nil ?_
    rw [List.append_assoc]
    exact end_ok (G := [WB bl (bs ++ (DefP.toksB a d l ++ HuffP.wb a 256)), RT, RA, RD]) res0 ⟨rfl, rfl⟩ (sub (.cons (by exact rr1) (.cons (by exact rr3) (.cons (by exact rr3) (.cons (by exact rr3) .nil)))) (by exact dd3))
end Go.Proofs.Ythmgkggpipnalaa

/- Steps of the proof: the walks of the functions that the statement reaches; printed by a program of ours. -/
import Derived.Test.YthmgkggpipnalaaSl22
import Derived.KernelRfl
import Derived.Test.YthmgkggpipnalaaDhR
import Derived.Test.YthmgkggpipnalaaM35
/-
  Steps of the proof: walks of functions that the statement reaches; printed by a program of ours.
-/
namespace Go.Proofs.Ythmgkggpipnalaa
open Go.Sl 
set_option linter.unusedVariables false
theorem TTDhS : okT Try.prog ⟨[34, 109, 126, 134], []⟩ = true := by kernel_rfl
set_option linter.unusedSimpArgs false

set_option maxRecDepth 100000 in
theorem k_growP (n : Nat) (hn : n ≤ 1000000) : Ctr Try.prog 64 [.slice none 0 0, .int .i64 (n : Int)] [] (Ret fun v G => ∃ p c, v = .slice p 0 c ∧ G = [Row PC p 0 c []]) := by
  refine spec_of [(0, _), (1, _)] Try.func64 rfl Try.ntmps64 rfl rfl ?_
  intro w0 F
  refine rT TTDhS 12 rfl ?_
  refine w_condD rfl (fun h6 => ?_) (fun h6 => ?_)
  ·
    exact absurd h6 (by omega)
  ·
    refine rCs TTDhS 11 rfl (by omega) ?_
    refine o_val (v_to (v := .int .i64 (n : Int)) (v_sub rfl rfl (wrapI (by omega) (by omega))) (by simp)) rfl ?_
    refine rO TTDhS 9 rfl ?_
    refine w_condD rfl (fun h16 => ?_) (fun h16 => ?_)
    ·
      refine rC TTDhS 4 rfl ?_
      refine o_val (v_slice0 0 0 V.sl109 rfl ⟨_, rfl⟩ rfl (by omega) (by omega)) rfl ?_
      refine o_val (v_move rfl) rfl ?_
      refine o_add0 (Row PC none 0 0 []) (Row.nil _ _ _) ?_
      refine r_appendZ (c := (PC)) n V.sl109 Try.underlying3 V.z111 rfl rfl rfl rfl rfl (by exact own mm0) (by omega) (by omega) rfl ?_
      intro p22 c22
      refine rO TTDhS 2 rfl ?_
      refine o_val (v_slice0 0 _ V.sl109 rfl ⟨_, rfl⟩ rfl (by omega) (by omega)) rfl ?_
      refine rO TTDhS 10 rfl ?_
      exact ret_ok (G := [Row PC p22 0 c22 []]) (res1 rfl) ⟨p22, c22, rfl, rfl⟩ (fun w0 w hi => ((sub (G := [Row PC p22 (0 + n) c22 ([] ++ List.replicate n PC.d)]) (.cons (by exact rr0) .nil) (by exact dd1) : Sub _ (_ ++ F)) w0 w hi).imp (fun h hh => Row.cut 0 (Nat.zero_le _) hh))
    ·
      refine rC TTDhS 9 rfl ?_
      exact ret_ok (G := [Row PC none 0 0 []]) (res1 rfl) ⟨none, 0, rfl, rfl⟩ (sub_add0 (fun w0 => Row.nil _ _ _))

set_option maxRecDepth 100000 in
theorem k_growI (n : Nat) (hn : n ≤ 1000000) : Ctr Try.prog 72 [.slice none 0 0, .int .i64 (n : Int)] [] (Ret fun v G => ∃ p c, v = .slice p 0 c ∧ G = [Row I3 p 0 c []]) := by
  refine spec_of [(0, _), (1, _)] Try.func72 rfl Try.ntmps72 rfl rfl ?_
  intro w0 F
  refine rT TTDhS 12 rfl ?_
  refine w_condD rfl (fun h6 => ?_) (fun h6 => ?_)
  ·
    exact absurd h6 (by omega)
  ·
    refine rCs TTDhS 11 rfl (by omega) ?_
    refine o_val (v_to (v := .int .i64 (n : Int)) (v_sub rfl rfl (wrapI (by omega) (by omega))) (by simp)) rfl ?_
    refine rO TTDhS 9 rfl ?_
    refine w_condD rfl (fun h16 => ?_) (fun h16 => ?_)
    ·
      refine rC TTDhS 4 rfl ?_
      refine o_val (v_slice0 0 0 V.sl34 rfl ⟨_, rfl⟩ rfl (by omega) (by omega)) rfl ?_
      refine o_val (v_move rfl) rfl ?_
      refine o_add0 (Row I3 none 0 0 []) (Row.nil _ _ _) ?_
      refine r_appendZ (c := (I3)) n V.sl34 Try.underlying3 V.z3 rfl rfl rfl rfl rfl (by exact own mm0) (by omega) (by omega) rfl ?_
      intro p22 c22
      refine rO TTDhS 2 rfl ?_
      refine o_val (v_slice0 0 _ V.sl34 rfl ⟨_, rfl⟩ rfl (by omega) (by omega)) rfl ?_
      refine rO TTDhS 10 rfl ?_
      exact ret_ok (G := [Row I3 p22 0 c22 []]) (res1 rfl) ⟨p22, c22, rfl, rfl⟩ (fun w0 w hi => ((sub (G := [Row I3 p22 (0 + n) c22 ([] ++ List.replicate n I3.d)]) (.cons (by exact rr0) .nil) (by exact dd1) : Sub _ (_ ++ F)) w0 w hi).imp (fun h hh => Row.cut 0 (Nat.zero_le _) hh))
    ·
      refine rC TTDhS 9 rfl ?_
      exact ret_ok (G := [Row I3 none 0 0 []]) (res1 rfl) ⟨none, 0, rfl, rfl⟩ (sub_add0 (fun w0 => Row.nil _ _ _))

set_option maxRecDepth 100000 in
theorem k_concatP (q : Option Addr) (cq : Nat) (xs : List Sx) (ls : List (List Pc)) (A : HProp) (hl : ls.length = xs.length) (hA : ∀ k (hk : k < xs.length), ∀ w0 h, A w0 h → RdR PC xs[k].p xs[k].n (ls.getD k []) w0 h) (hx : xs.length ≤ 100) (htot : szs xs xs.length ≤ 1000000) : Ctr Try.prog 55 [.slice q xs.length cq] [Row PS q xs.length cq xs, A] (Ret fun v G => ∃ p c, v = .slice p (szs xs xs.length) c ∧ G = [Row PC p (szs xs xs.length) c ls.flatten, A]) := by
  refine spec_of [(0, _)] Try.func55 rfl Try.ntmps55 rfl rfl ?_
  intro w0 F
  refine rT TTDhS 19 rfl ?_
  refine w_loop1 (fun (k : Nat) => [(0, .slice q xs.length cq), (3, .int .i64 (szs xs k : Int)), (9, .slice q xs.length cq), (10, .int .i64 (xs.length : Int)), (11, .int .i64 (k : Int))]) (fun (k : Nat) => Row PS q xs.length cq xs :: A :: F) (fun (k : Nat) => k ≤ xs.length) (fun (k : Nat) => xs.length - k) (i1 (0) ?_ (.cons rfl (.cons rfl (.cons rfl (.cons rfl (.cons rfl (.nil _)))))) (sub (.cons (by exact rr0) (.cons (by exact rr0) .nil)) (by exact dd0))) ?_
  ·
    exact Nat.zero_le _
  intro k
  rintro hk
  refine rL TTDhS 6 rfl ?_
  refine w_condD rfl (fun h12 => ?_) (fun h12 => ?_)
  ·
    refine rC TTDhS 5 rfl ?_
    have hk2 : k < xs.length := by omega
    have hgk := PS.g_nat hk2
    have hsz := szs_succ hk2
    have hsl := szs_le (xs := xs) (show k + 1 ≤ xs.length by omega) (Nat.le_refl _)
    refine w_region ?_
    refine o_val (r_index (c := (PS)) V.sl126 rfl rfl (by exact own mm0) (by omega) (by omega)) rfl ?_
    refine o_val (r_load (c := (PS)) V.s109 rfl (by exact own mm0) (by omega) (by omega) rfl rfl) rfl ?_
    refine rO TTDhS 4 rfl ?_
    rw [hgk]
    refine rCs TTDhS 14 rfl (by omega) ?_
    refine w_condD rfl (fun h20 => ?_) (fun h20 => ?_)
    ·
      exact absurd h20 (by omega)
    ·
      refine rCs TTDhS 7 rfl (by omega) ?_
      rw [show (szs xs k : Int) + (xs[k].n : Int) = ((szs xs (k + 1) : Nat) : Int) by omega]
      refine j1 (k + 1) ?_ (.cons rfl (.cons rfl (.cons rfl (.cons rfl (.cons rfl (.nil _)))))) (sub (.cons (by exact rr0) (.cons (by exact rr0) .nil)) (by exact dd0))
      exact ⟨by omega, by omega⟩
  ·
    refine rC TTDhS 6 rfl ?_
    obtain rfl : k = xs.length := by omega
    refine rC TTDhS 2 rfl ?_
    refine o_call (k_growP (szs xs xs.length) (by omega)) V.b64  rfl .nil rfl ?_
    rintro _ _ ⟨p24, c24, rfl, rfl⟩
    refine rO TTDhS 12 rfl ?_
    rw [show Row PC p24 0 c24 [] = Row PC p24 (szs xs 0) c24 (ls.take 0).flatten from by rw [szs_zero]; simp, show Value.slice p24 0 c24 = Value.slice p24 (szs xs 0) c24 from by rw [szs_zero]]
    refine w_loop3 (fun (k : Nat) (pn : Option Addr) (cn : Nat) => [(6, .slice pn (szs xs k) cn), (25, .slice q xs.length cq), (26, .int .i64 (xs.length : Int)), (27, .int .i64 (k : Int))]) (fun (k : Nat) (pn : Option Addr) (cn : Nat) => Row PC pn (szs xs k) cn (ls.take k).flatten :: Row PS q xs.length cq xs :: A :: F) (fun (k : Nat) (pn : Option Addr) (cn : Nat) => k ≤ xs.length) (fun (k : Nat) (pn : Option Addr) (cn : Nat) => xs.length - k) (i3 (0) (_) (_) ?_ (.cons rfl (.cons rfl (.cons rfl (.cons rfl (.nil _))))) (sub (.cons (by exact rr0) (.cons (by exact rr0) (.cons (by exact rr0) .nil))) (by exact dd0))) ?_
    ·
      exact Nat.zero_le _
    intro k pn cn
    rintro hk
    refine rL TTDhS 6 rfl ?_
    refine w_condD rfl (fun h28 => ?_) (fun h28 => ?_)
    ·
      refine rC TTDhS 5 rfl ?_
      have hk2 : k < xs.length := by omega
      have hgk := PS.g_nat hk2
      have hsz := szs_succ hk2
      have hsl := szs_le (xs := xs) (show k + 1 ≤ xs.length by omega) (Nat.le_refl _)
      refine w_region ?_
      refine o_val (r_index (c := (PS)) V.sl126 rfl rfl (by exact own mm1) (by omega) (by omega)) rfl ?_
      refine o_val (r_load (c := (PS)) V.s109 rfl (by exact own mm1) (by omega) (by omega) rfl rfl) rfl ?_
      refine rO TTDhS 3 rfl ?_
      rw [hgk]
      refine rC TTDhS 3 rfl ?_
      refine r_append (c := (PC)) V.sl109 V.z111 rfl rfl rfl rfl (by exact rr0) (by exact rdH (hA k hk2) mm2) (by omega) rfl ?_
      intro p33 c33
      refine rOs TTDhS 8 rfl (by omega) ?_
      rw [← hsz, flat_succ (by omega)]
      refine j3 (k + 1) (_) (_) ?_ (.cons rfl (.cons rfl (.cons rfl (.cons rfl (.nil _))))) (sub (.cons (by exact rr0) (.cons (by exact rr0) (.cons (by exact rr0) .nil))) (by exact dd0))
      exact ⟨by omega, by omega⟩
    ·
      refine rC TTDhS 12 rfl ?_
      obtain rfl : k = xs.length := by omega
      rw [show ls.take xs.length = ls from by rw [← hl, List.take_length]]
      exact end_ok (G := [Row PC pn (szs xs xs.length) cn ls.flatten, A]) (res1 rfl) ⟨pn, cn, rfl, rfl⟩ (sub (.cons (by exact rr0) (.cons (by exact rr1) .nil)) (by exact dd1))

set_option maxRecDepth 100000 in
theorem k_concatI (q : Option Addr) (cq : Nat) (xs : List Sx) (ls : List (List Int)) (A : HProp) (hl : ls.length = xs.length) (hA : ∀ k (hk : k < xs.length), ∀ w0 h, A w0 h → RdR I3 xs[k].p xs[k].n (ls.getD k []) w0 h) (hx : xs.length ≤ 100) (htot : szs xs xs.length ≤ 1000000) : Ctr Try.prog 65 [.slice q xs.length cq] [Row QS q xs.length cq xs, A] (Ret fun v G => ∃ p c, v = .slice p (szs xs xs.length) c ∧ G = [Row I3 p (szs xs xs.length) c ls.flatten, A]) := by
  refine spec_of [(0, _)] Try.func65 rfl Try.ntmps65 rfl rfl ?_
  intro w0 F
  refine rT TTDhS 19 rfl ?_
  refine w_loop1 (fun (k : Nat) => [(0, .slice q xs.length cq), (3, .int .i64 (szs xs k : Int)), (9, .slice q xs.length cq), (10, .int .i64 (xs.length : Int)), (11, .int .i64 (k : Int))]) (fun (k : Nat) => Row QS q xs.length cq xs :: A :: F) (fun (k : Nat) => k ≤ xs.length) (fun (k : Nat) => xs.length - k) (i1 (0) ?_ (.cons rfl (.cons rfl (.cons rfl (.cons rfl (.cons rfl (.nil _)))))) (sub (.cons (by exact rr0) (.cons (by exact rr0) .nil)) (by exact dd0))) ?_
  ·
    exact Nat.zero_le _
  intro k
  rintro hk
  refine rL TTDhS 6 rfl ?_
  refine w_condD rfl (fun h12 => ?_) (fun h12 => ?_)
  ·
    refine rC TTDhS 5 rfl ?_
    have hk2 : k < xs.length := by omega
    have hgk := QS.g_nat hk2
    have hsz := szs_succ hk2
    have hsl := szs_le (xs := xs) (show k + 1 ≤ xs.length by omega) (Nat.le_refl _)
    refine w_region ?_
    refine o_val (r_index (c := (QS)) V.sl134 rfl rfl (by exact own mm0) (by omega) (by omega)) rfl ?_
    refine o_val (r_load (c := (QS)) V.s34 rfl (by exact own mm0) (by omega) (by omega) rfl rfl) rfl ?_
    refine rO TTDhS 4 rfl ?_
    rw [hgk]
    refine rCs TTDhS 14 rfl (by omega) ?_
    refine w_condD rfl (fun h20 => ?_) (fun h20 => ?_)
    ·
      exact absurd h20 (by omega)
    ·
      refine rCs TTDhS 7 rfl (by omega) ?_
      rw [show (szs xs k : Int) + (xs[k].n : Int) = ((szs xs (k + 1) : Nat) : Int) by omega]
      refine j1 (k + 1) ?_ (.cons rfl (.cons rfl (.cons rfl (.cons rfl (.cons rfl (.nil _)))))) (sub (.cons (by exact rr0) (.cons (by exact rr0) .nil)) (by exact dd0))
      exact ⟨by omega, by omega⟩
  ·
    refine rC TTDhS 6 rfl ?_
    obtain rfl : k = xs.length := by omega
    refine rC TTDhS 2 rfl ?_
    refine o_call (k_growI (szs xs xs.length) (by omega)) V.b72  rfl .nil rfl ?_
    rintro _ _ ⟨p24, c24, rfl, rfl⟩
    refine rO TTDhS 12 rfl ?_
    rw [show Row I3 p24 0 c24 [] = Row I3 p24 (szs xs 0) c24 (ls.take 0).flatten from by rw [szs_zero]; simp, show Value.slice p24 0 c24 = Value.slice p24 (szs xs 0) c24 from by rw [szs_zero]]
    refine w_loop3 (fun (k : Nat) (pn : Option Addr) (cn : Nat) => [(6, .slice pn (szs xs k) cn), (25, .slice q xs.length cq), (26, .int .i64 (xs.length : Int)), (27, .int .i64 (k : Int))]) (fun (k : Nat) (pn : Option Addr) (cn : Nat) => Row I3 pn (szs xs k) cn (ls.take k).flatten :: Row QS q xs.length cq xs :: A :: F) (fun (k : Nat) (pn : Option Addr) (cn : Nat) => k ≤ xs.length) (fun (k : Nat) (pn : Option Addr) (cn : Nat) => xs.length - k) (i3 (0) (_) (_) ?_ (.cons rfl (.cons rfl (.cons rfl (.cons rfl (.nil _))))) (sub (.cons (by exact rr0) (.cons (by exact rr0) (.cons (by exact rr0) .nil))) (by exact dd0))) ?_
    ·
      exact Nat.zero_le _
    intro k pn cn
    rintro hk
    refine rL TTDhS 6 rfl ?_
    refine w_condD rfl (fun h28 => ?_) (fun h28 => ?_)
    ·
      refine rC TTDhS 5 rfl ?_
      have hk2 : k < xs.length := by omega
      have hgk := QS.g_nat hk2
      have hsz := szs_succ hk2
      have hsl := szs_le (xs := xs) (show k + 1 ≤ xs.length by omega) (Nat.le_refl _)
      refine w_region ?_
      refine o_val (r_index (c := (QS)) V.sl134 rfl rfl (by exact own mm1) (by omega) (by omega)) rfl ?_
      refine o_val (r_load (c := (QS)) V.s34 rfl (by exact own mm1) (by omega) (by omega) rfl rfl) rfl ?_
      refine rO TTDhS 3 rfl ?_
      rw [hgk]
      refine rC TTDhS 3 rfl ?_
      refine r_append (c := (I3)) V.sl34 V.z3 rfl rfl rfl rfl (by exact rr0) (by exact rdH (hA k hk2) mm2) (by omega) rfl ?_
      intro p33 c33
      refine rOs TTDhS 8 rfl (by omega) ?_
      rw [← hsz, flat_succ (by omega)]
      refine j3 (k + 1) (_) (_) ?_ (.cons rfl (.cons rfl (.cons rfl (.cons rfl (.nil _))))) (sub (.cons (by exact rr0) (.cons (by exact rr0) (.cons (by exact rr0) .nil))) (by exact dd0))
      exact ⟨by omega, by omega⟩
    ·
      refine rC TTDhS 12 rfl ?_
      obtain rfl : k = xs.length := by omega
      rw [show ls.take xs.length = ls from by rw [← hl, List.take_length]]
      exact end_ok (G := [Row I3 pn (szs xs xs.length) cn ls.flatten, A]) (res1 rfl) ⟨pn, cn, rfl, rfl⟩ (sub (.cons (by exact rr0) (.cons (by exact rr1) .nil)) (by exact dd1))
end Go.Proofs.Ythmgkggpipnalaa

/-
  Steps of the proof: walks of functions that the statement reaches; printed by a program of ours.
-/
namespace Go.Proofs.Ythmgkggpipnalaa
open Go.Sl 
set_option linter.unusedVariables false
theorem TTDhT : okT Try.prog ⟨[109], [(111, 0, 0)]⟩ = true := by kernel_rfl
set_option linter.unusedSimpArgs false

theorem g_mem {α : Type} {c : Ec α} {l : List α} {i : Int} (h : i.toNat < l.length) : c.g l i ∈ l := by
  have e : c.g l i = l[i.toNat] := by simp [Ec.g, h]
  rw [e]
  exact List.getElem_mem h
theorem szs_two (a b : Sx) : szs [a, b] 2 = a.n + b.n := by simp [szs]
theorem k_concat2I (q : Option Addr) (cq : Nat) (p1 : Option Addr) (n1 c1 : Nat) (p2 : Option Addr) (n2 c2 : Nat) (l1 l2 : List Int) (A : HProp) (h1 : ∀ w0 h, A w0 h → RdR I3 p1 n1 l1 w0 h) (h2 : ∀ w0 h, A w0 h → RdR I3 p2 n2 l2 w0 h) (hn : n1 + n2 ≤ 1000000) :
    Ctr Try.prog 65 [.slice q 2 cq] [Row QS q 2 cq [Sx.mk p1 n1 c1, Sx.mk p2 n2 c2], A] (Ret fun v G => ∃ p c, v = .slice p (n1 + n2) c ∧ G = [Row I3 p (n1 + n2) c (l1 ++ l2), A]) := by
  have h := k_concatI q cq [Sx.mk p1 n1 c1, Sx.mk p2 n2 c2] [l1, l2] A rfl (fun k hk => by
    match k, hk with
    | 0, _ => exact h1
    | 1, _ => exact h2
    | k + 2, hk => simp at hk; omega) (by simp) (by rw [show [Sx.mk p1 n1 c1, Sx.mk p2 n2 c2].length = 2 from rfl, szs_two]; exact hn)
  rw [show [Sx.mk p1 n1 c1, Sx.mk p2 n2 c2].length = 2 from rfl, szs_two, show [l1, l2].flatten = l1 ++ l2 from by simp] at h
  exact h
theorem k_concat2P (q : Option Addr) (cq : Nat) (p1 : Option Addr) (n1 c1 : Nat) (p2 : Option Addr) (n2 c2 : Nat) (l1 l2 : List Pc) (A : HProp) (h1 : ∀ w0 h, A w0 h → RdR PC p1 n1 l1 w0 h) (h2 : ∀ w0 h, A w0 h → RdR PC p2 n2 l2 w0 h) (hn : n1 + n2 ≤ 1000000) :
    Ctr Try.prog 55 [.slice q 2 cq] [Row PS q 2 cq [Sx.mk p1 n1 c1, Sx.mk p2 n2 c2], A] (Ret fun v G => ∃ p c, v = .slice p (n1 + n2) c ∧ G = [Row PC p (n1 + n2) c (l1 ++ l2), A]) := by
  have h := k_concatP q cq [Sx.mk p1 n1 c1, Sx.mk p2 n2 c2] [l1, l2] A rfl (fun k hk => by
    match k, hk with
    | 0, _ => exact h1
    | 1, _ => exact h2
    | k + 2, hk => simp at hk; omega) (by simp) (by rw [show [Sx.mk p1 n1 c1, Sx.mk p2 n2 c2].length = 2 from rfl, szs_two]; exact hn)
  rw [show [Sx.mk p1 n1 c1, Sx.mk p2 n2 c2].length = 2 from rfl, szs_two, show [l1, l2].flatten = l1 ++ l2 from by simp] at h
  exact h
theorem pair_step {l : List Pc} {k : Nat} (h : 2 * k + 1 < l.length) {o : List Pc} (ho : o.map pk = (PkM.prd (l.map pk)).take k) {x : Pc} (hx : pk x = ((PC.g l (2 * (k : Int))).w + (PC.g l (2 * (k : Int) + 1)).w, (PC.g l (2 * (k : Int))).s ++ (PC.g l (2 * (k : Int) + 1)).s)) : (o ++ [x]).map pk = (PkM.prd (l.map pk)).take (k + 1) := by
  have e1 : (2 * (k : Int)).toNat = 2 * k := by omega
  have e2 : (2 * (k : Int) + 1).toNat = 2 * k + 1 := by omega
  rw [List.map_append, List.map_singleton, ho, PkM.prd_at k _ (by simpa using h), hx]
  unfold Ec.g
  rw [e1, e2]
  simp [h, show 2 * k < l.length by omega, pk]

set_option maxRecDepth 100000 in
theorem k_lighter (a b : Pc) (S : HProp) : Ctr Try.prog 54 [.agg (PC.e a).toArray, .agg (PC.e b).toArray] [S] (Ret fun v G => v = .int .i64 (cmpI a.w b.w) ∧ G = [S]) := by
  refine spec_of [(0, _), (1, _)] Try.func54 rfl Try.ntmps54 rfl rfl ?_
  intro w0 F
  refine rT TTDhT 2 rfl ?_
  refine o_box rfl (cs := [_, _]) rfl rfl ?_
  intro b2
  refine o_box rfl (cs := [_, _]) rfl rfl ?_
  intro b3
  refine rO TTDhT 6 rfl ?_
  refine o_val (v_load V.s3 rfl (by exact mm1) rfl) rfl ?_
  refine o_val (v_fieldAddr V.f111_0 rfl) rfl ?_
  refine o_val (v_load V.s3 rfl (by exact mm0) rfl) rfl ?_
  refine o_call (c_compare a.w b.w) V.b61  rfl .nil rfl ?_
  rintro _ _ ⟨rfl, rfl⟩
  refine rO TTDhT 4 rfl ?_
  exact ret_ok (G := [_]) (res1 rfl) ⟨rfl, rfl⟩ (sub (.cons (by exact rr2) .nil) (by exact dd2))

set_option maxHeartbeats 8000000 in
set_option maxRecDepth 100000 in
theorem k_paired (p : Option Addr) (c : Nat) (l B : List Pc) (M : Int) (N : Nat) (A : HProp) (hRd : ∀ w0 h, A w0 h → RdR PC p l.length l w0 h) (hl : l.length ≤ 1000) (hM : M ≤ 1000000000000) (hN : N ≤ 100000) (hx : ∀ x ∈ l, x ∈ B ∧ x.n = x.s.length ∧ 0 ≤ x.w ∧ x.w ≤ M ∧ x.n ≤ N) : Ctr Try.prog 56 [.slice p l.length c] [A, Bank B] (Ret fun v G => ∃ p2 c2 o B2, v = .slice p2 (l.length / 2) c2 ∧ (∀ x ∈ B, x ∈ B2) ∧ (∀ x ∈ o, x ∈ B2 ∧ x.n = x.s.length) ∧ o.map pk = PkM.prd (l.map pk) ∧ o.length = l.length / 2 ∧ G = [Row PC p2 (l.length / 2) c2 o, A, Bank B2]) := by
  refine spec_of [(0, _)] Try.func56 rfl Try.ntmps56 rfl rfl ?_
  intro w0 F
  refine rT TTDhT 17 rfl ?_
  refine w_add0 (Row PC none 0 0 []) (Row.nil _ _ _) ?_
  refine w_loop5 (fun (k : Nat) (po : Option Addr) (co : Nat) (o : List Pc) (B2 : List Pc) => [(0, .slice p l.length c), (3, .slice po k co), (4, .int .i64 (2 * (k : Int)))]) (fun (k : Nat) (po : Option Addr) (co : Nat) (o : List Pc) (B2 : List Pc) => Row PC po k co o :: A :: Bank B2 :: F) (fun (k : Nat) (po : Option Addr) (co : Nat) (o : List Pc) (B2 : List Pc) => 2 * k ≤ l.length ∧ o.length = k ∧ (∀ x ∈ B, x ∈ B2) ∧ (∀ x ∈ o, x ∈ B2 ∧ x.n = x.s.length) ∧ o.map pk = (PkM.prd (l.map pk)).take k) (fun (k : Nat) (po : Option Addr) (co : Nat) (o : List Pc) (B2 : List Pc) => l.length - k) (i5 (0) (none) (0) ([]) (B) ?_ (.cons rfl (.cons rfl (.cons rfl (.nil _)))) (sub (.cons (by exact rr0) (.cons (by exact rr0) (.cons (by exact rr0) .nil))) (by exact dd0))) ?_
  ·
    exact ⟨by omega, rfl, fun x h => h, fun x h => by simp at h, by simp⟩
  intro k po co o B2
  rintro ⟨hk, ho, hB, hoB, hoP⟩
  refine rLs TTDhT 10 rfl (by omega) ?_
  refine w_condD rfl (fun h9 => ?_) (fun h9 => ?_)
  ·
    refine rC TTDhT 4 rfl ?_
    have hk2 : 2 * k + 1 < l.length := by omega
    have ha := hx (PC.g l (2 * (k : Int))) (g_mem (by omega))
    have hb := hx (PC.g l ((2 * (k : Int)) + 1)) (g_mem (by omega))
    have hma := hB _ ha.1
    have hmb := hB _ hb.1
    refine w_net [⟨[], [], [3], 0, 0⟩, ⟨[], [], [0], 0, 0⟩, ⟨[], [], [4], 0, 0⟩, ⟨[1, 2], [1, 2], [], 0, 0⟩, ⟨[1, 2, 3], [3], [], 0, 0⟩, ⟨[1, 2, 3, 4], [4], [], 0, 0⟩, ⟨[], [], [0], 0, 0⟩, ⟨[], [], [4], 0, 0⟩, ⟨[7], [7], [], 0, 0⟩, ⟨[6, 7, 8], [6, 8], [], 0, 0⟩, ⟨[6, 7, 8, 9], [9], [], 0, 0⟩, ⟨[6, 7, 8, 9, 10], [10], [], 0, 0⟩, ⟨[1, 2, 3, 4, 5, 6, 7, 8, 9, 10, 11], [5, 11], [], 0, 0⟩, ⟨[], [], [0], 0, 0⟩, ⟨[], [], [4], 0, 0⟩, ⟨[13, 14], [13, 14], [], 0, 0⟩, ⟨[13, 14, 15], [15], [], 0, 0⟩, ⟨[13, 14, 15, 16], [16], [], 0, 0⟩, ⟨[], [], [0], 0, 0⟩, ⟨[], [], [4], 0, 0⟩, ⟨[19], [19], [], 0, 0⟩, ⟨[18, 19, 20], [18, 20], [], 0, 0⟩, ⟨[18, 19, 20, 21], [21], [], 0, 0⟩, ⟨[18, 19, 20, 21, 22], [22], [], 0, 0⟩, ⟨[13, 14, 15, 16, 17, 18, 19, 20, 21, 22, 23], [17, 23], [], 0, 0⟩, ⟨[13, 14, 15, 16, 17, 18, 19, 20, 21, 22, 23, 24], [24], [], 0, 0⟩, ⟨[1, 2, 3, 4, 5, 6, 7, 8, 9, 10, 11, 12, 13, 14, 15, 16, 17, 18, 19, 20, 21, 22, 23, 24, 25], [12, 25], [], 0, 0⟩, ⟨[1, 2, 3, 4, 5, 6, 7, 8, 9, 10, 11, 12, 13, 14, 15, 16, 17, 18, 19, 20, 21, 22, 23, 24, 25, 26], [26], [], 0, 0⟩, ⟨[0, 1, 2, 3, 4, 5, 6, 7, 8, 9, 10, 11, 12, 13, 14, 15, 16, 17, 18, 19, 20, 21, 22, 23, 24, 25, 26, 27], [0, 27], [], 0, 0⟩, ⟨[0, 1, 2, 3, 4, 5, 6, 7, 8, 9, 10, 11, 12, 13, 14, 15, 16, 17, 18, 19, 20, 21, 22, 23, 24, 25, 26, 27, 28], [28], [], 0, 0⟩] [⟨fun y => Row PC po k co o, none, some 28, []⟩, ⟨fun y => A, none, none, [3, 5, 9, 11, 15, 17, 21, 23]⟩, ⟨fun y => Bank B2, none, some 25, []⟩, ⟨fun y => Row (QS) (some ⟨(blk' (slP (y 24))), 0, none⟩) 2 2 [Sx.mk (PC.g l (2 * (k : Int))).p (PC.g l (2 * (k : Int))).n (PC.g l (2 * (k : Int))).c, Sx.mk (PC.g l ((2 * (k : Int)) + 1)).p (PC.g l ((2 * (k : Int)) + 1)).n (PC.g l ((2 * (k : Int)) + 1)).c], some 24, some 25, []⟩, ⟨fun y => Row I3 (slP (y 25)) ((PC.g l (2 * (k : Int))).n + (PC.g l ((2 * (k : Int)) + 1)).n) (slC (y 25)) ((PC.g l (2 * (k : Int))).s ++ (PC.g l ((2 * (k : Int)) + 1)).s), some 25, none, []⟩, ⟨fun y => Bank B2, some 25, none, []⟩, ⟨fun y => Row (PC) (some ⟨(blk' (slP (y 27))), 0, none⟩) 1 1 [(Pc.mk ((PC.g l (2 * (k : Int))).w + (PC.g l ((2 * (k : Int)) + 1)).w) (slP (y 25)) ((PC.g l (2 * (k : Int))).n + (PC.g l ((2 * (k : Int)) + 1)).n) (slC (y 25)) ((PC.g l (2 * (k : Int))).s ++ (PC.g l ((2 * (k : Int)) + 1)).s))], some 27, none, [28]⟩, ⟨fun y => Row (PC) (slP (y 28)) (k + 1) (slC (y 28)) (o ++ [(Pc.mk ((PC.g l (2 * (k : Int))).w + (PC.g l ((2 * (k : Int)) + 1)).w) (slP (y 25)) ((PC.g l (2 * (k : Int))).n + (PC.g l ((2 * (k : Int)) + 1)).n) (slC (y 25)) ((PC.g l (2 * (k : Int))).s ++ (PC.g l ((2 * (k : Int)) + 1)).s))]), some 28, none, []⟩] F V.mixed (by kernel_rfl) rfl (fun _ => .refl _) (locT_0 _ (locT_0 _ (locT_0 _ (locT_1 [13, 14, 15, 16, 17, 18, 19, 20, 21, 22, 23] rfl (by intro y y2 h; simp only [h 24 (.inl rfl)]) (locT_1 [13, 14, 15, 16, 17, 18, 19, 20, 21, 22, 23, 24] rfl (by intro y y2 h; simp only [h 25 (.inl rfl)]) (locT_1 [13, 14, 15, 16, 17, 18, 19, 20, 21, 22, 23, 24] rfl (by intro y y2 h; rfl) (locT_1 [1, 2, 3, 4, 5, 6, 7, 8, 9, 10, 11, 12, 13, 14, 15, 16, 17, 18, 19, 20, 21, 22, 23, 24, 25, 26] rfl (by intro y y2 h; simp only [h 25 (.inr (by decide)), h 27 (.inl rfl)]) (locT_1 [0, 1, 2, 3, 4, 5, 6, 7, 8, 9, 10, 11, 12, 13, 14, 15, 16, 17, 18, 19, 20, 21, 22, 23, 24, 25, 26, 27] rfl (by intro y y2 h; simp only [h 25 (.inr (by decide)), h 28 (.inl rfl)]) locT_nil)))))))) ?_
    refine net_pure (fun y => [(3, _)]) (fun y => rfl) rfl rfl rfl (fun y hA L => st_v (v_move rfl) ⟨rfl, rfl⟩) (by intros; rfl) (by intro y y2 h; rfl) ?_
    refine net_pure (fun y => [(0, _)]) (fun y => rfl) rfl rfl rfl (fun y hA L => st_v (v_move rfl) ⟨rfl, rfl⟩) (by intros; rfl) (by intro y y2 h; rfl) ?_
    refine net_pure (fun y => [(4, _)]) (fun y => rfl) rfl rfl rfl (fun y hA L => st_v (v_move rfl) ⟨rfl, rfl⟩) (by intros; rfl) (by intro y y2 h; rfl) ?_
    refine net_read (fun y => [A]) (fun y => [(13, _), (14, _)]) (fun y => rfl) rfl (fun y => rfl) rfl (fun y FF hA => st_v (r_index (c := (PC)) V.sl109 rfl rfl (by exact rdH hRd mm0) (by omega) (by omega)) ⟨rfl, rfl⟩) (by intros; rfl) (by intro y y2 h; rfl) ?_
    refine net_pure (fun y => [(15, _)]) (fun y => rfl) rfl rfl rfl (fun y hA L => st_v (v_fieldAddr V.f111_0 rfl) ⟨rfl, rfl⟩) (by intros; rfl) (by intro y y2 h; rfl) ?_
    refine net_read (fun y => [A]) (fun y => [(16, _)]) (fun y => rfl) rfl (fun y => rfl) rfl (fun y FF hA => st_v (r_loadF (c := (PC)) 0 V.s3 rfl (by exact rdH hRd mm0) (by omega) (by omega) rfl rfl) ⟨rfl, rfl⟩) (by intros; rfl) (by intro y y2 h; rfl) ?_
    refine net_pure (fun y => [(0, _)]) (fun y => rfl) rfl rfl rfl (fun y hA L => st_v (v_move rfl) ⟨rfl, rfl⟩) (by intros; rfl) (by intro y y2 h; rfl) ?_
    refine net_pure (fun y => [(4, _)]) (fun y => rfl) rfl rfl rfl (fun y hA L => st_v (v_move rfl) ⟨rfl, rfl⟩) (by intros; rfl) (by intro y y2 h; rfl) ?_
    refine net_pure (fun y => [(19, _)]) (fun y => rfl) rfl rfl rfl (fun y hA L => st_v (v_add rfl rfl (wrapI (by omega) (by omega))) ⟨rfl, rfl⟩) (by intros; rfl) (by intro y y2 h; rfl) ?_
    refine net_read (fun y => [A]) (fun y => [(18, _), (20, _)]) (fun y => rfl) rfl (fun y => rfl) rfl (fun y FF hA => st_v (r_index (c := (PC)) V.sl109 rfl rfl (by exact rdH hRd mm0) (by omega) (by omega)) ⟨rfl, rfl⟩) (by intros; rfl) (by intro y y2 h; rfl) ?_
    refine net_pure (fun y => [(21, _)]) (fun y => rfl) rfl rfl rfl (fun y hA L => st_v (v_fieldAddr V.f111_0 rfl) ⟨rfl, rfl⟩) (by intros; rfl) (by intro y y2 h; rfl) ?_
    refine net_read (fun y => [A]) (fun y => [(22, _)]) (fun y => rfl) rfl (fun y => rfl) rfl (fun y FF hA => st_v (r_loadF (c := (PC)) 0 V.s3 rfl (by exact rdH hRd mm0) (by omega) (by omega) rfl rfl) ⟨rfl, rfl⟩) (by intros; rfl) (by intro y y2 h; rfl) ?_
    refine net_pure (fun y => [(17, _), (23, _)]) (fun y => rfl) rfl rfl rfl (fun y hA L => st_v (v_add rfl rfl (wrapI (by omega) (by omega))) ⟨rfl, rfl⟩) (by intros; rfl) (by intro y y2 h; rfl) ?_
    refine net_pure (fun y => [(0, _)]) (fun y => rfl) rfl rfl rfl (fun y hA L => st_v (v_move rfl) ⟨rfl, rfl⟩) (by intros; rfl) (by intro y y2 h; rfl) ?_
    refine net_pure (fun y => [(4, _)]) (fun y => rfl) rfl rfl rfl (fun y hA L => st_v (v_move rfl) ⟨rfl, rfl⟩) (by intros; rfl) (by intro y y2 h; rfl) ?_
    refine net_read (fun y => [A]) (fun y => [(25, _), (26, _)]) (fun y => rfl) rfl (fun y => rfl) rfl (fun y FF hA => st_v (r_index (c := (PC)) V.sl109 rfl rfl (by exact rdH hRd mm0) (by omega) (by omega)) ⟨rfl, rfl⟩) (by intros; rfl) (by intro y y2 h; rfl) ?_
    refine net_pure (fun y => [(27, _)]) (fun y => rfl) rfl rfl rfl (fun y hA L => st_v (v_fieldAddr V.f111_1 rfl) ⟨rfl, rfl⟩) (by intros; rfl) (by intro y y2 h; rfl) ?_
    refine net_read (fun y => [A]) (fun y => [(28, _)]) (fun y => rfl) rfl (fun y => rfl) rfl (fun y FF hA => st_v (r_loadF (c := (PC)) 1 V.s34 rfl (by exact rdH hRd mm0) (by omega) (by omega) rfl rfl) ⟨rfl, rfl⟩) (by intros; rfl) (by intro y y2 h; rfl) ?_
    refine net_pure (fun y => [(0, _)]) (fun y => rfl) rfl rfl rfl (fun y hA L => st_v (v_move rfl) ⟨rfl, rfl⟩) (by intros; rfl) (by intro y y2 h; rfl) ?_
    refine net_pure (fun y => [(4, _)]) (fun y => rfl) rfl rfl rfl (fun y hA L => st_v (v_move rfl) ⟨rfl, rfl⟩) (by intros; rfl) (by intro y y2 h; rfl) ?_
    refine net_pure (fun y => [(31, _)]) (fun y => rfl) rfl rfl rfl (fun y hA L => st_v (v_add rfl rfl (wrapI (by omega) (by omega))) ⟨rfl, rfl⟩) (by intros; rfl) (by intro y y2 h; rfl) ?_
    refine net_read (fun y => [A]) (fun y => [(30, _), (32, _)]) (fun y => rfl) rfl (fun y => rfl) rfl (fun y FF hA => st_v (r_index (c := (PC)) V.sl109 rfl rfl (by exact rdH hRd mm0) (by omega) (by omega)) ⟨rfl, rfl⟩) (by intros; rfl) (by intro y y2 h; rfl) ?_
    refine net_pure (fun y => [(33, _)]) (fun y => rfl) rfl rfl rfl (fun y hA L => st_v (v_fieldAddr V.f111_1 rfl) ⟨rfl, rfl⟩) (by intros; rfl) (by intro y y2 h; rfl) ?_
    refine net_read (fun y => [A]) (fun y => [(34, _)]) (fun y => rfl) rfl (fun y => rfl) rfl (fun y FF hA => st_v (r_loadF (c := (PC)) 1 V.s34 rfl (by exact rdH hRd mm0) (by omega) (by omega) rfl rfl) ⟨rfl, rfl⟩) (by intros; rfl) (by intro y y2 h; rfl) ?_
    refine net_new (fun y v => .slice (some ⟨blk' (slP v), 0, none⟩) 2 2) (fun y v => True) (fun y => []) (fun y => []) (fun y v => [Row (QS) (some ⟨(blk' (slP v)), 0, none⟩) 2 2 [Sx.mk (PC.g l (2 * (k : Int))).p (PC.g l (2 * (k : Int))).n (PC.g l (2 * (k : Int))).c, Sx.mk (PC.g l ((2 * (k : Int)) + 1)).p (PC.g l ((2 * (k : Int)) + 1)).n (PC.g l ((2 * (k : Int)) + 1)).c]]) (fun y => [(29, _), (35, _)]) (fun y => rfl) (fun y => rfl) (fun y => rfl) (fun y => rfl) (fun y FF hA => st_newN (r_buildX (QS) ([Sx.mk (PC.g l (2 * (k : Int))).p (PC.g l (2 * (k : Int))).n (PC.g l (2 * (k : Int))).c, Sx.mk (PC.g l ((2 * (k : Int)) + 1)).p (PC.g l ((2 * (k : Int)) + 1)).n (PC.g l ((2 * (k : Int)) + 1)).c]) V.sl134 V.z34 rfl rfl rfl rfl rfl)) (by intros; rfl) (by intros; rfl) (by intros; rfl) (by intro y y2 h; simp only [h 24 (.inl rfl)]) (by intro y y2 h; rfl) ?_
    refine net_new (fun y v => .slice (slP v) ((PC.g l (2 * (k : Int))).n + (PC.g l ((2 * (k : Int)) + 1)).n) (slC v)) (fun y v => True) (fun y => [Bank B2, Row (QS) (some ⟨(blk' (slP (y 24))), 0, none⟩) 2 2 [Sx.mk (PC.g l (2 * (k : Int))).p (PC.g l (2 * (k : Int))).n (PC.g l (2 * (k : Int))).c, Sx.mk (PC.g l ((2 * (k : Int)) + 1)).p (PC.g l ((2 * (k : Int)) + 1)).n (PC.g l ((2 * (k : Int)) + 1)).c]]) (fun y => []) (fun y v => [Row I3 (slP v) ((PC.g l (2 * (k : Int))).n + (PC.g l ((2 * (k : Int)) + 1)).n) (slC v) ((PC.g l (2 * (k : Int))).s ++ (PC.g l ((2 * (k : Int)) + 1)).s), Bank B2]) (fun y => [(36, _)]) (fun y => rfl) (fun y => rfl) (fun y => rfl) (fun y => rfl) (fun y FF hA => st_callSl (k_concat2I (some ⟨(blk' (slP (y 24))), 0, none⟩) 2 (PC.g l (2 * (k : Int))).p (PC.g l (2 * (k : Int))).n (PC.g l (2 * (k : Int))).c (PC.g l ((2 * (k : Int)) + 1)).p (PC.g l ((2 * (k : Int)) + 1)).n (PC.g l ((2 * (k : Int)) + 1)).c (PC.g l (2 * (k : Int))).s (PC.g l ((2 * (k : Int)) + 1)).s (Bank B2) (bank_rd hma) (bank_rd hmb) (by omega)) V.b65 rfl (.cons (by exact rr1) (.cons (by exact rr0) .nil))) (by intros; rfl) (by intros; rfl) (by intros; rfl) (by intro y y2 h; simp only [h 24 (.inr (by decide)), h 25 (.inl rfl)]) (by intro y y2 h; rfl) ?_
    refine net_pure (fun y => [(24, _), (37, _)]) (fun y => rfl) rfl rfl rfl (fun y hA L => st_v (v_to (v := .agg #[.int .i64 ((PC.g l (2 * (k : Int))).w + (PC.g l ((2 * (k : Int)) + 1)).w), .slice (slP (y 25)) ((PC.g l (2 * (k : Int))).n + (PC.g l ((2 * (k : Int)) + 1)).n) (slC (y 25))]) (v_build V.pl111 V.z111 rfl (cs := [_, _]) rfl) rfl) ⟨rfl, rfl⟩) (by intros; rfl) (by intro y y2 h; simp only [h 25 (.inr (by decide))]) ?_
    refine net_new (fun y v => .slice (some ⟨blk' (slP v), 0, none⟩) 1 1) (fun y v => True) (fun y => []) (fun y => []) (fun y v => [Row (PC) (some ⟨(blk' (slP v)), 0, none⟩) 1 1 [(Pc.mk ((PC.g l (2 * (k : Int))).w + (PC.g l ((2 * (k : Int)) + 1)).w) (slP (y 25)) ((PC.g l (2 * (k : Int))).n + (PC.g l ((2 * (k : Int)) + 1)).n) (slC (y 25)) ((PC.g l (2 * (k : Int))).s ++ (PC.g l ((2 * (k : Int)) + 1)).s))]]) (fun y => [(38, _)]) (fun y => rfl) (fun y => rfl) (fun y => rfl) (fun y => rfl) (fun y FF hA => st_newN (r_buildX (PC) ([(Pc.mk ((PC.g l (2 * (k : Int))).w + (PC.g l ((2 * (k : Int)) + 1)).w) (slP (y 25)) ((PC.g l (2 * (k : Int))).n + (PC.g l ((2 * (k : Int)) + 1)).n) (slC (y 25)) ((PC.g l (2 * (k : Int))).s ++ (PC.g l ((2 * (k : Int)) + 1)).s))]) V.sl109 V.z111 rfl rfl rfl (fill_pc (Pc.mk ((PC.g l (2 * (k : Int))).w + (PC.g l ((2 * (k : Int)) + 1)).w) (slP (y 25)) ((PC.g l (2 * (k : Int))).n + (PC.g l ((2 * (k : Int)) + 1)).n) (slC (y 25)) ((PC.g l (2 * (k : Int))).s ++ (PC.g l ((2 * (k : Int)) + 1)).s))) rfl)) (by intros; rfl) (by intros; rfl) (by intros; rfl) (by intro y y2 h; simp only [h 25 (.inr (by decide)), h 27 (.inl rfl)]) (by intro y y2 h; rfl) ?_
    refine net_new (fun y v => .slice (slP v) (k + 1) (slC v)) (fun y v => True) (fun y => [Row PC po k co o]) (fun y => [Row (PC) (some ⟨(blk' (slP (y 27))), 0, none⟩) 1 1 [(Pc.mk ((PC.g l (2 * (k : Int))).w + (PC.g l ((2 * (k : Int)) + 1)).w) (slP (y 25)) ((PC.g l (2 * (k : Int))).n + (PC.g l ((2 * (k : Int)) + 1)).n) (slC (y 25)) ((PC.g l (2 * (k : Int))).s ++ (PC.g l ((2 * (k : Int)) + 1)).s))]]) (fun y v => [Row (PC) (slP v) (k + 1) (slC v) (o ++ [(Pc.mk ((PC.g l (2 * (k : Int))).w + (PC.g l ((2 * (k : Int)) + 1)).w) (slP (y 25)) ((PC.g l (2 * (k : Int))).n + (PC.g l ((2 * (k : Int)) + 1)).n) (slC (y 25)) ((PC.g l (2 * (k : Int))).s ++ (PC.g l ((2 * (k : Int)) + 1)).s))])]) (fun y => [(12, _), (39, _)]) (fun y => rfl) (fun y => rfl) (fun y => rfl) (fun y => rfl) (fun y FF hA => st_appN (r_appendX (c := (PC)) V.sl109 V.z111 rfl rfl rfl rfl rr0 (by exact own mm1) (by omega)) (.refl _)) (by intros; rfl) (by intros; rfl) (by intros; rfl) (by intro y y2 h; simp only [h 27 (.inr (by decide)), h 28 (.inl rfl)]) (by intro y y2 h; rfl) ?_
    refine net_pure (fun y => [(40, _)]) (fun y => rfl) rfl rfl rfl (fun y hA L => st_v (v_assign rfl) ⟨rfl, rfl⟩) (by intros; rfl) (by intro y y2 h; simp only [h 28 (.inr (by decide))]) ?_
    refine net_nil ?_
    intro y hA
    clear hA
    refine rN TTDhT 2 rfl ?_
    refine w_keep [(0, .slice p l.length c), (3, .slice (slP (y 28)) (k + 1) (slC (y 28))), (4, .int .i64 (2 * (k : Int)))] (.cons (d := 0) rfl (.cons (d := 3) rfl (.cons (d := 4) rfl (.nil _)))) ?_
    refine w_sub (M := A :: Row I3 (slP (y 25)) ((PC.g l (2 * (k : Int))).n + (PC.g l ((2 * (k : Int)) + 1)).n) (slC (y 25)) ((PC.g l (2 * (k : Int))).s ++ (PC.g l ((2 * (k : Int)) + 1)).s) :: Bank B2 :: Row (PC) (some ⟨(blk' (slP (y 27))), 0, none⟩) 1 1 [(Pc.mk ((PC.g l (2 * (k : Int))).w + (PC.g l ((2 * (k : Int)) + 1)).w) (slP (y 25)) ((PC.g l (2 * (k : Int))).n + (PC.g l ((2 * (k : Int)) + 1)).n) (slC (y 25)) ((PC.g l (2 * (k : Int))).s ++ (PC.g l ((2 * (k : Int)) + 1)).s))] :: Row (PC) (slP (y 28)) (k + 1) (slC (y 28)) (o ++ [(Pc.mk ((PC.g l (2 * (k : Int))).w + (PC.g l ((2 * (k : Int)) + 1)).w) (slP (y 25)) ((PC.g l (2 * (k : Int))).n + (PC.g l ((2 * (k : Int)) + 1)).n) (slC (y 25)) ((PC.g l (2 * (k : Int))).s ++ (PC.g l ((2 * (k : Int)) + 1)).s))]) :: F) (fun _ _ h => h) ?_
    generalize (blk' (slP (y 24))) = b36
    generalize (slP (y 25)) = q37
    generalize (blk' (slP (y 27))) = b39
    generalize (slP (y 28)) = p40
    generalize (slC (y 28)) = c40
    refine w_sub (fold' (.cons (by exact rr1) (.cons (by exact rr1) .nil)) dd0 (fun w0 h hh => bank_add (x := (Pc.mk ((PC.g l (2 * (k : Int))).w + (PC.g l ((2 * (k : Int)) + 1)).w) q37 ((PC.g l (2 * (k : Int))).n + (PC.g l ((2 * (k : Int)) + 1)).n) (slC (y 25)) ((PC.g l (2 * (k : Int))).s ++ (PC.g l ((2 * (k : Int)) + 1)).s))) hh)) ?_
    refine rCs TTDhT 5 rfl (by omega) ?_
    rw [show (2 * (k : Int)) + 2 = 2 * ((k + 1 : Nat) : Int) by omega]
    refine j5 (k + 1) _ _ (o ++ [(Pc.mk ((PC.g l (2 * (k : Int))).w + (PC.g l ((2 * (k : Int)) + 1)).w) q37 ((PC.g l (2 * (k : Int))).n + (PC.g l ((2 * (k : Int)) + 1)).n) (slC (y 25)) ((PC.g l (2 * (k : Int))).s ++ (PC.g l ((2 * (k : Int)) + 1)).s))]) ((Pc.mk ((PC.g l (2 * (k : Int))).w + (PC.g l ((2 * (k : Int)) + 1)).w) q37 ((PC.g l (2 * (k : Int))).n + (PC.g l ((2 * (k : Int)) + 1)).n) (slC (y 25)) ((PC.g l (2 * (k : Int))).s ++ (PC.g l ((2 * (k : Int)) + 1)).s)) :: B2) ?_ (.cons rfl (.cons rfl (.cons rfl (.nil _)))) (sub (.cons (by exact rr3) (.cons (by exact rr1) (.cons (by exact rr0) .nil))) (by exact dd1))
    refine ⟨⟨by omega, by rw [List.length_append, ho]; simp, fun x h => List.mem_cons_of_mem _ (hB x h), fun x h => ?_, pair_step hk2 hoP rfl⟩, by omega⟩
    rcases List.mem_append.1 h with h | h
    · exact ⟨List.mem_cons_of_mem _ (hoB x h).1, (hoB x h).2⟩
    · rw [List.mem_singleton.1 h]
      refine ⟨List.mem_cons_self .., ?_⟩
      show _ + _ = (_ ++ _ : List Int).length
      rw [List.length_append, ← ha.2.1, ← hb.2.1]
  ·
    refine rC TTDhT 12 rfl ?_
    have hke : k = l.length / 2 := by omega
    subst hke
    rw [List.take_of_length_le (by rw [PkM.prd_len, List.length_map]; exact Nat.le_refl _)] at hoP
    exact end_ok (G := [Row PC po (l.length / 2) co o, A, Bank B2]) (res1 rfl) ⟨po, co, o, B2, rfl, hB, hoB, hoP, ho, rfl⟩ (sub (.cons (by exact rr0) (.cons (by exact rr0) (.cons (by exact rr0) .nil))) (by exact dd0))
end Go.Proofs.Ythmgkggpipnalaa

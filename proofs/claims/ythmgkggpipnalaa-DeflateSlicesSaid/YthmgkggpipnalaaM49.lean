/- Steps of the proof: the walks of the functions that the statement reaches; printed by a program of ours. -/
import Derived.Test.YthmgkggpipnalaaSl22
import Derived.KernelRfl
import Derived.Test.YthmgkggpipnalaaDfF
import Derived.Test.YthmgkggpipnalaaM31
/-
  Steps of the proof: walks of functions that the statement reaches; printed by a program of ours.
-/
namespace Go.Proofs.Ythmgkggpipnalaa
open Go.Sl 
set_option linter.unusedVariables false
theorem TTDfG : okT Try.prog ⟨[22, 23], []⟩ = true := by kernel_rfl
set_option linter.unusedSimpArgs false

attribute [local irreducible] DefP.stF DefP.fxS DefP.dyS DefP.toks DefP.sN DefP.shF


abbrev S8 : Ec Sx := ⟨23, 1, fun x => [.slice x.p x.n x.c], ⟨none, 0, 0⟩, fun _ => rfl, fun _ => rfl⟩
theorem tri_g {pa pb pd : Option Addr} {ca cb cd : Nat} {n : Nat → Nat} {n1 n2 k : Nat} (e1 : n 1 = n1) (e2 : n 2 = n2) (hk : k < 2) : S8.g [Sx.mk pb n1 cb, Sx.mk pd n2 cd] (k : Int) = Sx.mk (DefP.tri pa pb pd (k + 1)) (n (k + 1)) (DefP.tri ca cb cd (k + 1)) := by
  subst e1; subst e2
  have : k = 0 ∨ k = 1 := by omega
  rcases this with rfl | rfl <;> rfl
theorem sN_0 (B : List Int) : DefP.sN B 0 = (DefP.stF B).length := by unfold DefP.sN; rfl
theorem sN_1 (B : List Int) : DefP.sN B 1 = (DefP.fxS (DefP.toks B)).length := by unfold DefP.sN; rfl
theorem sN_2 (B : List Int) : DefP.sN B 2 = (DefP.dyS (DefP.toks B)).length := by unfold DefP.sN; rfl
theorem sN_bd {B : List Int} {N : Nat} (h0 : (DefP.stF B).length ≤ N) (h1 : (DefP.fxS (DefP.toks B)).length ≤ N) (h2 : (DefP.dyS (DefP.toks B)).length ≤ N) {j : Nat} (h : j ≤ 2) : DefP.sN B j ≤ N := by
  rcases DefP.le2 h with rfl | rfl | rfl
  · rw [sN_0]; exact h0
  · rw [sN_1]; exact h1
  · rw [sN_2]; exact h2


set_option maxHeartbeats 4000000 in
set_option maxRecDepth 100000 in
theorem k_shortest (p : Option Addr) (c : Nat) (B : List Int) (R : HProp) (hR : ∀ w0 h, R w0 h → RdR U5 p B.length B w0 h) (hB : BitP.Byt B) (hl : B.length ≤ 4194304) (hcap : B.length ≤ c) : Ctr Try.prog 25 [.slice p B.length c] [R] (Ret fun v G => ∃ q cq, v = .slice q (DefP.shF B).length cq ∧ G = [Row U5 q (DefP.shF B).length cq (DefP.shF B), R]) := by
  refine spec_of [(0, _)] Try.func25 rfl Try.ntmps25 rfl rfl ?_
  intro w0 F
  have hta := DefP.toks_at B
  have hok := hta.ok hB
  have htl : (DefP.toks B).length ≤ B.length := DefP.toks_le hB
  have hs0 := DefP.stF_len hl
  have hs1 := DefP.fxS_len hok (by omega)
  have hs2 := DefP.dyS_len hok (by omega)
  have hsb : ∀ j, j ≤ 2 → DefP.sN B j ≤ 300000000 := fun j hj => sN_bd (by omega) (by omega) (by omega) hj
  refine rT TTDfG 8 rfl ?_
  refine o_call (f_tokens p c B R hR hB hl) V.b32  rfl (.cons (by exact rr0) .nil) rfl ?_
  rintro _ _ ⟨q8, c8, rfl, rfl⟩
  refine rO TTDfG 6 rfl ?_
  refine o_call (k_stored p c B R hR hl hcap) V.b33  rfl (.cons (by exact rr1) .nil) rfl ?_
  rintro _ _ ⟨q10, c10, rfl, rfl⟩
  refine rO TTDfG 7 rfl ?_
  refine o_call (k_fixed q8 c8 (DefP.toks B) (Row TK q8 (DefP.toks B).length c8 (DefP.toks B)) (fun _ _ hh => hh.rd) hok (by omega)) V.b34  rfl (.cons (by exact rr2) .nil) rfl ?_
  rintro _ _ ⟨q12, c12, rfl, rfl⟩
  refine o_val (v_move rfl) rfl ?_
  refine o_call (k_dynamic q8 c8 (DefP.toks B) (Row TK q8 (DefP.toks B).length c8 (DefP.toks B)) (fun _ _ hh => hh.rd) hok (by omega)) V.b35  rfl (.cons (by exact rr1) .nil) rfl ?_
  rintro _ _ ⟨q14, c14, rfl, rfl⟩
  refine r_build (S8) [Sx.mk q12 (DefP.fxS (DefP.toks B)).length c12, Sx.mk q14 (DefP.dyS (DefP.toks B)).length c14] V.sl22 V.z23 rfl rfl rfl rfl rfl rfl ?_
  intro b15
  refine rO TTDfG 5 rfl ?_
  rw [show ((4 : Nat), Value.slice q10 (DefP.stF B).length c10) = (4, .slice (DefP.tri q10 q12 q14 (DefP.bi (DefP.sN B) 0)) (DefP.sN B (DefP.bi (DefP.sN B) 0)) (DefP.tri c10 c12 c14 (DefP.bi (DefP.sN B) 0))) from by rw [show DefP.bi (DefP.sN B) 0 = 0 from rfl, sN_0]; rfl]
  refine w_loop1 (fun (k : Nat) => [(4, .slice (DefP.tri q10 q12 q14 (DefP.bi (DefP.sN B) k)) (DefP.sN B (DefP.bi (DefP.sN B) k)) (DefP.tri c10 c12 c14 (DefP.bi (DefP.sN B) k))), (15, .slice (some ⟨b15, 0, none⟩) 2 2), (16, .int .i64 2), (17, .int .i64 (k : Int))]) (fun (k : Nat) => Row S8 (some ⟨b15, 0, none⟩) 2 2 [Sx.mk q12 (DefP.fxS (DefP.toks B)).length c12, Sx.mk q14 (DefP.dyS (DefP.toks B)).length c14] :: Row U5 q14 (DefP.dyS (DefP.toks B)).length c14 (DefP.dyS (DefP.toks B)) :: Row U5 q12 (DefP.fxS (DefP.toks B)).length c12 (DefP.fxS (DefP.toks B)) :: Row TK q8 (DefP.toks B).length c8 (DefP.toks B) :: Row U5 q10 (DefP.stF B).length c10 (DefP.stF B) :: R :: F) (fun (k : Nat) => k ≤ 2) (fun (k : Nat) => 2 - k) (i1 (0) ?_ (.cons rfl (.cons rfl (.cons rfl (.cons rfl (.nil _))))) (sub (.cons (by exact rr0) (.cons (by exact rr0) (.cons (by exact rr1) (.cons (by exact rr0) (.cons (by exact rr0) (.cons (by exact rr0) .nil)))))) (by exact dd0))) ?_
  ·
    exact Nat.zero_le _
  intro k
  rintro hk
  refine rL TTDfG 6 rfl ?_
  refine w_condD rfl (fun h18 => ?_) (fun h18 => ?_)
  ·
    refine rC TTDfG 6 rfl ?_
    refine o_val (r_index (c := (S8)) V.sl22 rfl rfl (by exact own mm0) (by omega) (by omega)) rfl ?_
    refine o_val (r_load (c := (S8)) V.s23 rfl (by exact own mm0) (by omega) (by omega) rfl rfl) rfl ?_
    rw [tri_g (pa := q10) (ca := c10) (n := DefP.sN B) (sN_1 B) (sN_2 B) (show k < 2 by omega)]
    dsimp only
    have hn1 := hsb (k + 1) (by omega)
    have hbl := DefP.bi_le (DefP.sN B) k
    have hn2 := hsb (DefP.bi (DefP.sN B) k) (by omega)
    refine rO TTDfG 12 rfl ?_
    refine w_condD rfl (fun h25 => ?_) (fun h25 => ?_)
    ·
      refine rCs TTDfG 10 rfl (by omega) ?_
      (rw [← DefP.bi_yes (n := DefP.sN B) (k := k) (by omega)]; exact j1 (k + 1) ⟨by omega, by omega⟩ (.cons rfl (.cons rfl (.cons rfl (.cons rfl (.nil _))))) (sub (.cons (by exact rr0) (.cons (by exact rr0) (.cons (by exact rr0) (.cons (by exact rr0) (.cons (by exact rr0) (.cons (by exact rr0) .nil)))))) (by exact dd0)))
    ·
      refine rCs TTDfG 7 rfl (by omega) ?_
      (rw [← DefP.bi_no (n := DefP.sN B) (k := k) (by omega)]; exact j1 (k + 1) ⟨by omega, by omega⟩ (.cons rfl (.cons rfl (.cons rfl (.cons rfl (.nil _))))) (sub (.cons (by exact rr0) (.cons (by exact rr0) (.cons (by exact rr0) (.cons (by exact rr0) (.cons (by exact rr0) (.cons (by exact rr0) .nil)))))) (by exact dd0)))
  ·
    refine rC TTDfG 6 rfl ?_
    obtain rfl : k = 2 := by omega
    refine rC TTDfG 6 rfl ?_
    have hsh : DefP.shF B = DefP.tri (DefP.stF B) (DefP.fxS (DefP.toks B)) (DefP.dyS (DefP.toks B)) (DefP.bi (DefP.sN B) 2) := by unfold DefP.shF; rfl
    rcases DefP.le2 (DefP.bi_le (DefP.sN B) 2) with hb | hb | hb
    · rw [hb, sN_0]
      rw [hb] at hsh
      have hsh2 : DefP.shF B = _ := hsh
      rw [hsh2]
      exact ret_ok (G := [Row U5 q10 (DefP.stF B).length c10 (DefP.stF B), R]) (res1 rfl) ⟨q10, c10, rfl, rfl⟩ (sub (.cons (by exact rr4) (.cons (by exact rr4) .nil)) (by exact dd4))
    · rw [hb, sN_1]
      rw [hb] at hsh
      have hsh2 : DefP.shF B = _ := hsh
      rw [hsh2]
      exact ret_ok (G := [Row U5 q12 (DefP.fxS (DefP.toks B)).length c12 (DefP.fxS (DefP.toks B)), R]) (res1 rfl) ⟨q12, c12, rfl, rfl⟩ (sub (.cons (by exact rr2) (.cons (by exact rr4) .nil)) (by exact dd4))
    · rw [hb, sN_2]
      rw [hb] at hsh
      have hsh2 : DefP.shF B = _ := hsh
      rw [hsh2]
      exact ret_ok (G := [Row U5 q14 (DefP.dyS (DefP.toks B)).length c14 (DefP.dyS (DefP.toks B)), R]) (res1 rfl) ⟨q14, c14, rfl, rfl⟩ (sub (.cons (by exact rr1) (.cons (by exact rr4) .nil)) (by exact dd4))
end Go.Proofs.Ythmgkggpipnalaa

/-
  Steps of the proof: walks of functions that the statement reaches; printed by a program of ours.
-/
namespace Go.Proofs.Ythmgkggpipnalaa
open Go.Sl 
set_option linter.unusedVariables false
theorem TTDfH : okT Try.prog ⟨[23], [(61, 0, 0), (61, 1, 1), (61, 2, 2), (61, 3, 3)]⟩ = true := by kernel_rfl
set_option linter.unusedSimpArgs false

attribute [local irreducible] DefP.shF


structure Dv where
  p1 : Option Addr
  n1 : Nat
  c1 : Nat
  t : Int
  p2 : Option Addr
  c2 : Nat
/-- A machine that has not read all; one that is done. -/
def DN (b : Nat) (B : List Int) (t : Nat) : HProp := fun w0 h => ∃ i : Lv, True ∧ sats w0 [Cel b 61 [.slice i.p1 B.length i.c1, .slice none 0 0, .int .i64 (t : Int), .bool false], Row U5 i.p1 B.length i.c1 B] h
def DD (b : Nat) (z : List Int) : HProp := fun w0 h => ∃ i : Dv, True ∧ sats w0 [Cel b 61 [.slice i.p1 i.n1 i.c1, .slice i.p2 z.length i.c2, .int .i64 i.t, .bool true], Row U5 i.p2 z.length i.c2 z] h
theorem dn_close {b : Nat} {B : List Int} {t : Nat} {p : Option Addr} {c : Nat} {w0 : World} {h : Hp} (hh : sats w0 [Cel b 61 [.slice p B.length c, .slice none 0 0, .int .i64 (t : Int), .bool false], Row U5 p B.length c B] h) : DN b B t w0 h := ⟨⟨p, c, none, 0⟩, trivial, hh⟩
theorem dd_close {b : Nat} {z : List Int} {t : Int} {p p2 : Option Addr} {n c c2 : Nat} {w0 : World} {h : Hp} (hh : sats w0 [Cel b 61 [.slice p n c, .slice p2 z.length c2, .int .i64 t, .bool true], Row U5 p2 z.length c2 z] h) : DD b z w0 h := ⟨⟨p, n, c, t, p2, c2⟩, trivial, hh⟩
/-- A machine of bytes: how far it is, or that it is done. -/
def DM (b : Nat) (B : List Int) : Option Nat → HProp
  | some t => DN b B t
  | none => DD b (DefP.shF B)
def stepZ (B : List Int) (s : Option Nat) (n : Int) : Option Nat :=
  match s with
  | none => none
  | some t => if n < 1 then some t else if (B.length : Int) ≤ t + n then none else some (t + n.toNat)


set_option maxRecDepth 100000 in
theorem m_new (p : Option Addr) (c : Nat) (B : List Int) (R : HProp) (hR : ∀ w0 h, R w0 h → RdR U5 p B.length B w0 h) (hl : B.length ≤ 4194304) : Ctr Try.prog 14 [.slice p B.length c] [R] (Ret fun v G => ∃ b, v = .pointer (some ⟨b, 0, none⟩) ∧ G = [DN b B 0, R]) := by
  refine spec_of [(0, _)] Try.func14 rfl Try.ntmps14 rfl rfl ?_
  intro w0 F
  refine rT TTDfH 10 rfl ?_
  refine o_val (v_F (v_gtr rfl rfl) (by omega)) rfl ?_
  refine rO TTDfH 8 rfl ?_
  refine o_call (c_clone p c B R hR (by omega)) V.b24  rfl (.cons (by exact rr0) .nil) rfl ?_
  rintro _ _ ⟨q9, c9, rfl, rfl⟩
  refine o_val (v_build V.pl61 V.z61 rfl (cs := [_, _, _, _]) rfl) rfl ?_
  refine o_box rfl (cs := [_, _, _, _]) rfl rfl ?_
  intro b11
  refine rO TTDfH 4 rfl ?_
  exact ret_ok (G := [DN b11 B 0, R]) (res1 rfl) ⟨b11, rfl, rfl⟩ (Sl.Sub.trans (fold' (.cons (by exact rr0) (.cons (by exact rr0) .nil)) .refl (fun w0 h hh => dn_close hh)) (sub (.cons (by exact rr0) (.cons (by exact rr0) .nil)) (by exact dd0)))

set_option maxRecDepth 100000 in
theorem m_doneN (b : Nat) (B : List Int) (t : Nat) : Ctr Try.prog 15 [.pointer (some ⟨b, 0, none⟩)] [DN b B t] (Ret fun v G => v = .bool false ∧ G = [DN b B t]) := by
  refine spec_of [(0, _)] Try.func15 rfl Try.ntmps15 rfl rfl ?_
  intro w0 F
  refine w_opn (fun h hh => hh) ?_
  rintro ⟨p1, c1, p2, c2⟩ _
  dsimp only
  simp only [List.cons_append, List.nil_append]
  refine rT TTDfH 8 rfl ?_
  refine o_val (v_to (v := .bool true) (v_nenil Try.underlying35 rfl rfl) rfl) rfl ?_
  refine rO TTDfH 4 rfl ?_
  refine o_want rfl ?_
  refine o_val (v_load V.s4 rfl (by exact mm0) rfl) rfl ?_
  refine rO TTDfH 5 rfl ?_
  exact ret_ok (G := [DN b B t]) (res1 rfl) ⟨rfl, rfl⟩ (Sl.Sub.trans (fold' (.cons (by exact rr0) (.cons (by exact rr0) .nil)) .refl (fun w0 h hh => dn_close hh)) (sub (.cons (by exact rr0) .nil) (by exact dd0)))

set_option maxRecDepth 100000 in
theorem m_doneD (b : Nat) (z : List Int) : Ctr Try.prog 15 [.pointer (some ⟨b, 0, none⟩)] [DD b z] (Ret fun v G => v = .bool true ∧ G = [DD b z]) := by
  refine spec_of [(0, _)] Try.func15 rfl Try.ntmps15 rfl rfl ?_
  intro w0 F
  refine w_opn (fun h hh => hh) ?_
  rintro ⟨p1, n1, c1, t, p2, c2⟩ _
  dsimp only
  simp only [List.cons_append, List.nil_append]
  refine rT TTDfH 8 rfl ?_
  refine o_val (v_to (v := .bool true) (v_nenil Try.underlying35 rfl rfl) rfl) rfl ?_
  refine rO TTDfH 4 rfl ?_
  refine o_want rfl ?_
  refine o_val (v_load V.s4 rfl (by exact mm0) rfl) rfl ?_
  refine rO TTDfH 5 rfl ?_
  exact ret_ok (G := [DD b z]) (res1 rfl) ⟨rfl, rfl⟩ (Sl.Sub.trans (fold' (.cons (by exact rr0) (.cons (by exact rr0) .nil)) .refl (fun w0 h hh => dd_close hh)) (sub (.cons (by exact rr0) .nil) (by exact dd0)))

set_option maxRecDepth 100000 in
theorem m_outN (b : Nat) (B : List Int) (t : Nat) : Ctr Try.prog 17 [.pointer (some ⟨b, 0, none⟩)] [DN b B t] (Ret fun v G => v = .slice none 0 0 ∧ G = [DN b B t]) := by
  refine spec_of [(0, _)] Try.func17 rfl Try.ntmps17 rfl rfl ?_
  intro w0 F
  refine rT TTDfH 9 rfl ?_
  refine o_call (m_doneN b B t) V.b15  rfl (.cons (by exact rr0) .nil) rfl ?_
  rintro _ _ ⟨rfl, rfl⟩
  refine rO TTDfH 11 rfl ?_
  exact ret_ok (G := [DN b B t]) (res1 rfl) ⟨rfl, rfl⟩ (sub (.cons (by exact rr0) .nil) (by exact dd0))

set_option maxRecDepth 100000 in
theorem m_outD (b : Nat) (z : List Int) (hz : z.length < 500000000) : Ctr Try.prog 17 [.pointer (some ⟨b, 0, none⟩)] [DD b z] (Ret fun v G => ∃ q c, v = .slice q z.length c ∧ G = [Row U5 q z.length c z, DD b z]) := by
  refine spec_of [(0, _)] Try.func17 rfl Try.ntmps17 rfl rfl ?_
  intro w0 F
  refine rT TTDfH 9 rfl ?_
  refine o_call (m_doneD b z) V.b15  rfl (.cons (by exact rr0) .nil) rfl ?_
  rintro _ _ ⟨rfl, rfl⟩
  refine rO TTDfH 7 rfl ?_
  refine w_opn (fun h hh => hh) ?_
  rintro ⟨p1, n1, c1, t, p2, c2⟩ _
  dsimp only
  simp only [List.cons_append, List.nil_append]
  refine rC TTDfH 4 rfl ?_
  refine o_val (v_load V.s23 rfl (by exact mm0) rfl) rfl ?_
  refine o_call (c_clone p2 c2 z (Row U5 p2 z.length c2 z) (fun _ _ hh => hh.rd) hz) V.b24  rfl (.cons (by exact rr1) .nil) rfl ?_
  rintro _ _ ⟨q10, c10, rfl, rfl⟩
  refine rO TTDfH 4 rfl ?_
  exact ret_ok (G := [Row U5 q10 z.length c10 z, DD b z]) (res1 rfl) ⟨q10, c10, rfl, rfl⟩ (Sl.Sub.trans (fold' (.cons (by exact rr2) (.cons (by exact rr1) .nil)) .refl (fun w0 h hh => dd_close hh)) (sub (.cons (by exact rr1) (.cons (by exact rr0) .nil)) (by exact dd0)))

set_option maxRecDepth 100000 in
theorem m_stepD (b : Nat) (z : List Int) (n : Int) : Ctr Try.prog 16 [.pointer (some ⟨b, 0, none⟩), .int .i64 n] [DD b z] (Ret fun v G => v = .bool true ∧ G = [DD b z]) := by
  refine spec_of [(0, _), (1, _)] Try.func16 rfl Try.ntmps16 rfl rfl ?_
  intro w0 F
  refine w_opn (fun h hh => hh) ?_
  rintro ⟨p1, n1, c1, t, p2, c2⟩ _
  dsimp only
  simp only [List.cons_append, List.nil_append]
  refine rT TTDfH 9 rfl ?_
  refine o_val (v_to (v := .bool false) (v_eqnil Try.underlying35 rfl rfl) rfl) rfl ?_
  refine rO TTDfH 5 rfl ?_
  rcases (Classical.em (n < 1)) with h1 | h1
  ·
    refine rC TTDfH 4 rfl ?_
    refine o_val (v_T (v_lss rfl rfl) h1) rfl ?_
    refine rO TTDfH 14 rfl ?_
    refine o_val (v_load V.s4 rfl (by exact mm0) rfl) rfl ?_
    refine rO TTDfH 5 rfl ?_
    exact ret_ok (G := [DD b z]) (res1 rfl) ⟨rfl, rfl⟩ (Sl.Sub.trans (fold' (.cons (by exact rr0) (.cons (by exact rr0) .nil)) .refl (fun w0 h hh => dd_close hh)) (sub (.cons (by exact rr0) .nil) (by exact dd0)))
  ·
    refine rC TTDfH 4 rfl ?_
    refine o_val (v_F (v_lss rfl rfl) h1) rfl ?_
    refine rO TTDfH 4 rfl ?_
    refine o_want rfl ?_
    refine o_val (v_load V.s4 rfl (by exact mm0) rfl) rfl ?_
    refine rO TTDfH 9 rfl ?_
    refine o_val (v_load V.s4 rfl (by exact mm0) rfl) rfl ?_
    refine rO TTDfH 5 rfl ?_
    exact ret_ok (G := [DD b z]) (res1 rfl) ⟨rfl, rfl⟩ (Sl.Sub.trans (fold' (.cons (by exact rr0) (.cons (by exact rr0) .nil)) .refl (fun w0 h hh => dd_close hh)) (sub (.cons (by exact rr0) .nil) (by exact dd0)))

set_option maxRecDepth 100000 in
theorem m_stepN0 (b : Nat) (B : List Int) (t : Nat) (n : Int) (hn : n < 1) : Ctr Try.prog 16 [.pointer (some ⟨b, 0, none⟩), .int .i64 n] [DN b B t] (Ret fun v G => v = .bool false ∧ G = [DN b B t]) := by
  refine spec_of [(0, _), (1, _)] Try.func16 rfl Try.ntmps16 rfl rfl ?_
  intro w0 F
  refine w_opn (fun h hh => hh) ?_
  rintro ⟨p1, c1, p2, c2⟩ _
  dsimp only
  simp only [List.cons_append, List.nil_append]
  refine rT TTDfH 9 rfl ?_
  refine o_val (v_to (v := .bool false) (v_eqnil Try.underlying35 rfl rfl) rfl) rfl ?_
  refine rO TTDfH 9 rfl ?_
  refine o_val (v_T (v_lss rfl rfl) hn) rfl ?_
  refine rO TTDfH 14 rfl ?_
  refine o_val (v_load V.s4 rfl (by exact mm0) rfl) rfl ?_
  refine rO TTDfH 5 rfl ?_
  exact ret_ok (G := [DN b B t]) (res1 rfl) ⟨rfl, rfl⟩ (Sl.Sub.trans (fold' (.cons (by exact rr0) (.cons (by exact rr0) .nil)) .refl (fun w0 h hh => dn_close hh)) (sub (.cons (by exact rr0) .nil) (by exact dd0)))

set_option maxHeartbeats 2000000 in
set_option maxRecDepth 100000 in
theorem m_stepN1 (b : Nat) (B : List Int) (t : Nat) (n : Int) (hn : 1 ≤ n) (ht : t ≤ B.length) (hl : B.length ≤ 4194304) (hlt : t + n < B.length) : Ctr Try.prog 16 [.pointer (some ⟨b, 0, none⟩), .int .i64 n] [DN b B t] (Ret fun v G => v = .bool false ∧ G = [DN b B (t + n.toNat)]) := by
  refine spec_of [(0, _), (1, _)] Try.func16 rfl Try.ntmps16 rfl rfl ?_
  intro w0 F
  refine w_opn (fun h hh => hh) ?_
  rintro ⟨p1, c1, p2, c2⟩ _
  dsimp only
  simp only [List.cons_append, List.nil_append]
  refine rT TTDfH 9 rfl ?_
  refine o_val (v_to (v := .bool false) (v_eqnil Try.underlying35 rfl rfl) rfl) rfl ?_
  refine rO TTDfH 9 rfl ?_
  refine o_val (v_F (v_lss rfl rfl) (by omega)) rfl ?_
  refine rO TTDfH 4 rfl ?_
  refine o_want rfl ?_
  refine o_val (v_load V.s4 rfl (by exact mm0) rfl) rfl ?_
  refine rO TTDfH 7 rfl ?_
  refine w_net [⟨[], [], [0], 0, 0⟩, ⟨[0], [0], [], 0, 0⟩, ⟨[0, 1], [1], [], 0, 0⟩, ⟨[0, 1, 2], [2], [], 0, 0⟩, ⟨[], [], [1], 0, 0⟩, ⟨[], [], [0], 0, 0⟩, ⟨[5], [5], [], 0, 0⟩, ⟨[5, 6], [6], [], 0, 0⟩, ⟨[5, 6, 7], [7], [], 0, 0⟩, ⟨[5, 6, 7, 8], [8], [], 0, 0⟩, ⟨[], [], [0], 0, 0⟩, ⟨[10], [10], [], 0, 0⟩, ⟨[10, 11], [11], [], 0, 0⟩, ⟨[10, 11, 12], [12], [], 0, 0⟩, ⟨[5, 6, 7, 8, 9, 10, 11, 12, 13], [9, 13], [], 0, 0⟩, ⟨[4, 5, 6, 7, 8, 9, 10, 11, 12, 13, 14], [4, 14], [], 0, 0⟩, ⟨[0, 1, 2, 3, 4, 5, 6, 7, 8, 9, 10, 11, 12, 13, 14, 15], [3, 15], [], 0, 0⟩, ⟨[0, 1, 2, 3, 4, 5, 6, 7, 8, 9, 10, 11, 12, 13, 14, 15, 16], [0], [], 0, 0⟩, ⟨[0, 1, 2, 3, 4, 5, 6, 7, 8, 9, 10, 11, 12, 13, 14, 15, 16, 17], [17], [], 0, 0⟩, ⟨[0, 1, 2, 3, 4, 5, 6, 7, 8, 9, 10, 11, 12, 13, 14, 15, 16, 17, 18], [18, 16], [], 0, 0⟩] [⟨fun y => Cel b 61 [.slice p1 B.length c1, .slice none 0 0, .int .i64 (t : Int), .bool false], none, some 19, [3, 8, 13]⟩, ⟨fun y => Row U5 p1 B.length c1 B, none, none, []⟩, ⟨fun y => Cel b 61 [.slice p1 B.length c1, .slice none 0 0, .int .i64 ((t + n.toNat : Nat) : Int), .bool false], some 19, none, []⟩] F V.mixed (by kernel_rfl) rfl (fun _ => .refl _) (locT_0 _ (locT_0 _ (locT_1 [0, 1, 2, 3, 4, 5, 6, 7, 8, 9, 10, 11, 12, 13, 14, 15, 16, 17, 18] rfl (by intro y y2 h; rfl) locT_nil))) ?_
  refine net_pure (fun y => [(0, _)]) (fun y => rfl) rfl rfl rfl (fun y hA L => st_v (v_move rfl) ⟨rfl, rfl⟩) (by intros; rfl) (by intro y y2 h; rfl) ?_
  refine net_pure (fun y => [(19, _)]) (fun y => rfl) rfl rfl rfl (fun y hA L => st_v (v_nil rfl) ⟨rfl, rfl⟩) (by intros; rfl) (by intro y y2 h; rfl) ?_
  refine net_pure (fun y => [(20, _)]) (fun y => rfl) rfl rfl rfl (fun y hA L => st_v (v_fieldAddr V.f61_2 rfl) ⟨rfl, rfl⟩) (by intros; rfl) (by intro y y2 h; rfl) ?_
  refine net_read (fun y => [Cel b 61 [.slice p1 B.length c1, .slice none 0 0, .int .i64 (t : Int), .bool false]]) (fun y => [(21, _)]) (fun y => rfl) rfl (fun y => rfl) rfl (fun y FF hA => st_v (v_load V.s3 rfl (by exact mm0) rfl) ⟨rfl, rfl⟩) (by intros; rfl) (by intro y y2 h; rfl) ?_
  refine net_pure (fun y => [(1, _)]) (fun y => rfl) rfl rfl rfl (fun y hA L => st_v (v_move rfl) ⟨rfl, rfl⟩) (by intros; rfl) (by intro y y2 h; rfl) ?_
  refine net_pure (fun y => [(0, _)]) (fun y => rfl) rfl rfl rfl (fun y hA L => st_v (v_move rfl) ⟨rfl, rfl⟩) (by intros; rfl) (by intro y y2 h; rfl) ?_
  refine net_pure (fun y => [(24, _)]) (fun y => rfl) rfl rfl rfl (fun y hA L => st_v (v_nil rfl) ⟨rfl, rfl⟩) (by intros; rfl) (by intro y y2 h; rfl) ?_
  refine net_pure (fun y => [(25, _)]) (fun y => rfl) rfl rfl rfl (fun y hA L => st_v (v_fieldAddr V.f61_0 rfl) ⟨rfl, rfl⟩) (by intros; rfl) (by intro y y2 h; rfl) ?_
  refine net_read (fun y => [Cel b 61 [.slice p1 B.length c1, .slice none 0 0, .int .i64 (t : Int), .bool false]]) (fun y => [(26, _)]) (fun y => rfl) rfl (fun y => rfl) rfl (fun y FF hA => st_v (v_load V.s23 rfl (by exact mm0) rfl) ⟨rfl, rfl⟩) (by intros; rfl) (by intro y y2 h; rfl) ?_
  refine net_pure (fun y => [(27, _)]) (fun y => rfl) rfl rfl rfl (fun y hA L => st_v (v_len (ty' := 0) Try.underlying23 rfl) ⟨rfl, rfl⟩) (by intros; rfl) (by intro y y2 h; rfl) ?_
  refine net_pure (fun y => [(0, _)]) (fun y => rfl) rfl rfl rfl (fun y hA L => st_v (v_move rfl) ⟨rfl, rfl⟩) (by intros; rfl) (by intro y y2 h; rfl) ?_
  refine net_pure (fun y => [(29, _)]) (fun y => rfl) rfl rfl rfl (fun y hA L => st_v (v_nil rfl) ⟨rfl, rfl⟩) (by intros; rfl) (by intro y y2 h; rfl) ?_
  refine net_pure (fun y => [(30, _)]) (fun y => rfl) rfl rfl rfl (fun y hA L => st_v (v_fieldAddr V.f61_2 rfl) ⟨rfl, rfl⟩) (by intros; rfl) (by intro y y2 h; rfl) ?_
  refine net_read (fun y => [Cel b 61 [.slice p1 B.length c1, .slice none 0 0, .int .i64 (t : Int), .bool false]]) (fun y => [(31, _)]) (fun y => rfl) rfl (fun y => rfl) rfl (fun y FF hA => st_v (v_load V.s3 rfl (by exact mm0) rfl) ⟨rfl, rfl⟩) (by intros; rfl) (by intro y y2 h; rfl) ?_
  refine net_pure (fun y => [(28, _), (32, _)]) (fun y => rfl) rfl rfl rfl (fun y hA L => st_v (v_sub rfl rfl (wrapI (by omega) (by omega))) ⟨rfl, rfl⟩) (by intros; rfl) (by intro y y2 h; rfl) ?_
  refine net_pure (fun y => [(23, _), (33, _)]) (fun y => rfl) rfl rfl rfl (fun y hA L => st_v (v_to (v := .int .i64 n) (v_min rfl rfl) (by rw [if_neg (by omega)])) ⟨rfl, rfl⟩) (by intros; rfl) (by intro y y2 h; rfl) ?_
  refine net_pure (fun y => [(22, _), (34, _)]) (fun y => rfl) rfl rfl rfl (fun y hA L => st_v (v_to (v := .int .i64 ((t + n.toNat : Nat) : Int)) (v_add rfl rfl (wrapI (by omega) (by omega))) (by congr 1; omega)) ⟨rfl, rfl⟩) (by intros; rfl) (by intro y y2 h; rfl) ?_
  refine net_pure (fun y => [(19, _)]) (fun y => rfl) rfl rfl rfl (fun y hA L => st_v (v_nil rfl) ⟨rfl, rfl⟩) (by intros; rfl) (by intro y y2 h; rfl) ?_
  refine net_pure (fun y => [(36, _)]) (fun y => rfl) rfl rfl rfl (fun y hA L => st_v (v_fieldAddr V.f61_2 rfl) ⟨rfl, rfl⟩) (by intros; rfl) (by intro y y2 h; rfl) ?_
  refine net_eff (fun y => [Cel b 61 [.slice p1 B.length c1, .slice none 0 0, .int .i64 (t : Int), .bool false]]) (fun y => []) (fun y => [Cel b 61 [.slice p1 B.length c1, .slice none 0 0, .int .i64 ((t + n.toNat : Nat) : Int), .bool false]]) (fun y => [(37, _), (35, _)]) (fun y => rfl) (fun y => rfl) (fun y => rfl) (fun y => rfl) (fun y FF hA => st_v (v_store V.s3 rfl rfl rfl (by exact pp0) (by exact Nat.le_of_ble_eq_true rfl) rfl) ⟨rfl, .refl _⟩) (by intros; rfl) (by intros; rfl) (by intro y y2 h; rfl) ?_
  refine net_nil ?_
  intro y hA
  clear hA
  refine thn_n ?_
  refine w_keep _ (.cons (d := 0) rfl (.nil _)) ?_
  refine w_sub (M := Row U5 p1 B.length c1 B :: Cel b 61 [.slice p1 B.length c1, .slice none 0 0, .int .i64 ((t + n.toNat : Nat) : Int), .bool false] :: F) (fun _ _ h => h) ?_
  refine rC TTDfH 2 rfl ?_
  refine w_rd V.mixed (by kernel_rfl) ?_
  refine rR TTDfH 3 rfl ?_
  refine Rg.o_val (v_load V.s3 rfl (by exact mm1) rfl) rfl rfl ?_
  refine rR TTDfH 3 rfl ?_
  refine Rg.o_val (v_load V.s23 rfl (by exact mm1) rfl) rfl rfl ?_
  refine Rg.o_val (v_len (ty' := 0) Try.underlying23 rfl) rfl rfl ?_
  refine Rg.o_val (v_F (v_eql rfl rfl) (by omega)) rfl rfl ?_
  refine Rg.o_nil ?_
  refine rN TTDfH 9 rfl ?_
  refine o_val (v_load V.s4 rfl (by exact mm1) rfl) rfl ?_
  refine rO TTDfH 4 rfl ?_
  exact ret_ok (G := [DN b B (t + n.toNat)]) (res1 rfl) ⟨rfl, rfl⟩ (Sl.Sub.trans (fold' (.cons (by exact rr1) (.cons (by exact rr0) .nil)) .refl (fun w0 h hh => dn_close hh)) (sub (.cons (by exact rr0) .nil) (by exact dd0)))

set_option maxHeartbeats 2000000 in
set_option maxRecDepth 100000 in
theorem m_stepN2 (b : Nat) (B : List Int) (t : Nat) (n : Int) (hn : 1 ≤ n) (ht : t ≤ B.length) (hl : B.length ≤ 4194304) (hge : B.length ≤ t + n) (hB : BitP.Byt B) : Ctr Try.prog 16 [.pointer (some ⟨b, 0, none⟩), .int .i64 n] [DN b B t] (Ret fun v G => v = .bool true ∧ G = [DD b (DefP.shF B)]) := by
  refine spec_of [(0, _), (1, _)] Try.func16 rfl Try.ntmps16 rfl rfl ?_
  intro w0 F
  refine w_opn (fun h hh => hh) ?_
  rintro ⟨p1, c1, p2, c2⟩ _
  dsimp only
  simp only [List.cons_append, List.nil_append]
  refine rT TTDfH 9 rfl ?_
  refine o_val (v_to (v := .bool false) (v_eqnil Try.underlying35 rfl rfl) rfl) rfl ?_
  refine rO TTDfH 9 rfl ?_
  refine o_val (v_F (v_lss rfl rfl) (by omega)) rfl ?_
  refine rO TTDfH 4 rfl ?_
  refine o_want rfl ?_
  refine o_val (v_load V.s4 rfl (by exact mm0) rfl) rfl ?_
  refine rO TTDfH 7 rfl ?_
  refine w_net [⟨[], [], [0], 0, 0⟩, ⟨[0], [0], [], 0, 0⟩, ⟨[0, 1], [1], [], 0, 0⟩, ⟨[0, 1, 2], [2], [], 0, 0⟩, ⟨[], [], [1], 0, 0⟩, ⟨[], [], [0], 0, 0⟩, ⟨[5], [5], [], 0, 0⟩, ⟨[5, 6], [6], [], 0, 0⟩, ⟨[5, 6, 7], [7], [], 0, 0⟩, ⟨[5, 6, 7, 8], [8], [], 0, 0⟩, ⟨[], [], [0], 0, 0⟩, ⟨[10], [10], [], 0, 0⟩, ⟨[10, 11], [11], [], 0, 0⟩, ⟨[10, 11, 12], [12], [], 0, 0⟩, ⟨[5, 6, 7, 8, 9, 10, 11, 12, 13], [9, 13], [], 0, 0⟩, ⟨[4, 5, 6, 7, 8, 9, 10, 11, 12, 13, 14], [4, 14], [], 0, 0⟩, ⟨[0, 1, 2, 3, 4, 5, 6, 7, 8, 9, 10, 11, 12, 13, 14, 15], [3, 15], [], 0, 0⟩, ⟨[0, 1, 2, 3, 4, 5, 6, 7, 8, 9, 10, 11, 12, 13, 14, 15, 16], [0], [], 0, 0⟩, ⟨[0, 1, 2, 3, 4, 5, 6, 7, 8, 9, 10, 11, 12, 13, 14, 15, 16, 17], [17], [], 0, 0⟩, ⟨[0, 1, 2, 3, 4, 5, 6, 7, 8, 9, 10, 11, 12, 13, 14, 15, 16, 17, 18], [18, 16], [], 0, 0⟩] [⟨fun y => Cel b 61 [.slice p1 B.length c1, .slice none 0 0, .int .i64 (t : Int), .bool false], none, some 19, [3, 8, 13]⟩, ⟨fun y => Row U5 p1 B.length c1 B, none, none, []⟩, ⟨fun y => Cel b 61 [.slice p1 B.length c1, .slice none 0 0, .int .i64 (B.length : Int), .bool false], some 19, none, []⟩] F V.mixed (by kernel_rfl) rfl (fun _ => .refl _) (locT_0 _ (locT_0 _ (locT_1 [0, 1, 2, 3, 4, 5, 6, 7, 8, 9, 10, 11, 12, 13, 14, 15, 16, 17, 18] rfl (by intro y y2 h; rfl) locT_nil))) ?_
  refine net_pure (fun y => [(0, _)]) (fun y => rfl) rfl rfl rfl (fun y hA L => st_v (v_move rfl) ⟨rfl, rfl⟩) (by intros; rfl) (by intro y y2 h; rfl) ?_
  refine net_pure (fun y => [(19, _)]) (fun y => rfl) rfl rfl rfl (fun y hA L => st_v (v_nil rfl) ⟨rfl, rfl⟩) (by intros; rfl) (by intro y y2 h; rfl) ?_
  refine net_pure (fun y => [(20, _)]) (fun y => rfl) rfl rfl rfl (fun y hA L => st_v (v_fieldAddr V.f61_2 rfl) ⟨rfl, rfl⟩) (by intros; rfl) (by intro y y2 h; rfl) ?_
  refine net_read (fun y => [Cel b 61 [.slice p1 B.length c1, .slice none 0 0, .int .i64 (t : Int), .bool false]]) (fun y => [(21, _)]) (fun y => rfl) rfl (fun y => rfl) rfl (fun y FF hA => st_v (v_load V.s3 rfl (by exact mm0) rfl) ⟨rfl, rfl⟩) (by intros; rfl) (by intro y y2 h; rfl) ?_
  refine net_pure (fun y => [(1, _)]) (fun y => rfl) rfl rfl rfl (fun y hA L => st_v (v_move rfl) ⟨rfl, rfl⟩) (by intros; rfl) (by intro y y2 h; rfl) ?_
  refine net_pure (fun y => [(0, _)]) (fun y => rfl) rfl rfl rfl (fun y hA L => st_v (v_move rfl) ⟨rfl, rfl⟩) (by intros; rfl) (by intro y y2 h; rfl) ?_
  refine net_pure (fun y => [(24, _)]) (fun y => rfl) rfl rfl rfl (fun y hA L => st_v (v_nil rfl) ⟨rfl, rfl⟩) (by intros; rfl) (by intro y y2 h; rfl) ?_
  refine net_pure (fun y => [(25, _)]) (fun y => rfl) rfl rfl rfl (fun y hA L => st_v (v_fieldAddr V.f61_0 rfl) ⟨rfl, rfl⟩) (by intros; rfl) (by intro y y2 h; rfl) ?_
  refine net_read (fun y => [Cel b 61 [.slice p1 B.length c1, .slice none 0 0, .int .i64 (t : Int), .bool false]]) (fun y => [(26, _)]) (fun y => rfl) rfl (fun y => rfl) rfl (fun y FF hA => st_v (v_load V.s23 rfl (by exact mm0) rfl) ⟨rfl, rfl⟩) (by intros; rfl) (by intro y y2 h; rfl) ?_
  refine net_pure (fun y => [(27, _)]) (fun y => rfl) rfl rfl rfl (fun y hA L => st_v (v_len (ty' := 0) Try.underlying23 rfl) ⟨rfl, rfl⟩) (by intros; rfl) (by intro y y2 h; rfl) ?_
  refine net_pure (fun y => [(0, _)]) (fun y => rfl) rfl rfl rfl (fun y hA L => st_v (v_move rfl) ⟨rfl, rfl⟩) (by intros; rfl) (by intro y y2 h; rfl) ?_
  refine net_pure (fun y => [(29, _)]) (fun y => rfl) rfl rfl rfl (fun y hA L => st_v (v_nil rfl) ⟨rfl, rfl⟩) (by intros; rfl) (by intro y y2 h; rfl) ?_
  refine net_pure (fun y => [(30, _)]) (fun y => rfl) rfl rfl rfl (fun y hA L => st_v (v_fieldAddr V.f61_2 rfl) ⟨rfl, rfl⟩) (by intros; rfl) (by intro y y2 h; rfl) ?_
  refine net_read (fun y => [Cel b 61 [.slice p1 B.length c1, .slice none 0 0, .int .i64 (t : Int), .bool false]]) (fun y => [(31, _)]) (fun y => rfl) rfl (fun y => rfl) rfl (fun y FF hA => st_v (v_load V.s3 rfl (by exact mm0) rfl) ⟨rfl, rfl⟩) (by intros; rfl) (by intro y y2 h; rfl) ?_
  refine net_pure (fun y => [(28, _), (32, _)]) (fun y => rfl) rfl rfl rfl (fun y hA L => st_v (v_sub rfl rfl (wrapI (by omega) (by omega))) ⟨rfl, rfl⟩) (by intros; rfl) (by intro y y2 h; rfl) ?_
  refine net_pure (fun y => [(23, _), (33, _)]) (fun y => rfl) rfl rfl rfl (fun y hA L => st_v (v_to (v := .int .i64 ((B.length : Int) - t)) (v_min rfl rfl) (by split <;> first | rfl | (congr 1; omega))) ⟨rfl, rfl⟩) (by intros; rfl) (by intro y y2 h; rfl) ?_
  refine net_pure (fun y => [(22, _), (34, _)]) (fun y => rfl) rfl rfl rfl (fun y hA L => st_v (v_to (v := .int .i64 (B.length : Int)) (v_add rfl rfl (wrapI (by omega) (by omega))) (by congr 1; omega)) ⟨rfl, rfl⟩) (by intros; rfl) (by intro y y2 h; rfl) ?_
  refine net_pure (fun y => [(19, _)]) (fun y => rfl) rfl rfl rfl (fun y hA L => st_v (v_nil rfl) ⟨rfl, rfl⟩) (by intros; rfl) (by intro y y2 h; rfl) ?_
  refine net_pure (fun y => [(36, _)]) (fun y => rfl) rfl rfl rfl (fun y hA L => st_v (v_fieldAddr V.f61_2 rfl) ⟨rfl, rfl⟩) (by intros; rfl) (by intro y y2 h; rfl) ?_
  refine net_eff (fun y => [Cel b 61 [.slice p1 B.length c1, .slice none 0 0, .int .i64 (t : Int), .bool false]]) (fun y => []) (fun y => [Cel b 61 [.slice p1 B.length c1, .slice none 0 0, .int .i64 (B.length : Int), .bool false]]) (fun y => [(37, _), (35, _)]) (fun y => rfl) (fun y => rfl) (fun y => rfl) (fun y => rfl) (fun y FF hA => st_v (v_store V.s3 rfl rfl rfl (by exact pp0) (by exact Nat.le_of_ble_eq_true rfl) rfl) ⟨rfl, .refl _⟩) (by intros; rfl) (by intros; rfl) (by intro y y2 h; rfl) ?_
  refine net_nil ?_
  intro y hA
  clear hA
  refine thn_n ?_
  refine w_keep _ (.cons (d := 0) rfl (.nil _)) ?_
  refine w_sub (M := Row U5 p1 B.length c1 B :: Cel b 61 [.slice p1 B.length c1, .slice none 0 0, .int .i64 (B.length : Int), .bool false] :: F) (fun _ _ h => h) ?_
  refine rC TTDfH 2 rfl ?_
  refine w_rd V.mixed (by kernel_rfl) ?_
  refine rR TTDfH 3 rfl ?_
  refine Rg.o_val (v_load V.s3 rfl (by exact mm1) rfl) rfl rfl ?_
  refine rR TTDfH 3 rfl ?_
  refine Rg.o_val (v_load V.s23 rfl (by exact mm1) rfl) rfl rfl ?_
  refine Rg.o_val (v_len (ty' := 0) Try.underlying23 rfl) rfl rfl ?_
  refine Rg.o_val (v_T (v_eql rfl rfl) (by omega)) rfl rfl ?_
  refine Rg.o_nil ?_
  refine rN TTDfH 2 rfl ?_
  refine w_fact (fun w hi => inv_pure hi (by exact mm0) (fun _ _ hh => row_cap (c := U5) (p := p1) (n := B.length) (cap := c1) (l := B) hh)) (fun hcap => ?_)
  refine rC TTDfH 6 rfl ?_
  refine o_val (v_load V.s23 rfl (by exact mm1) rfl) rfl ?_
  refine o_call (k_shortest p1 c1 B (Row U5 p1 B.length c1 B) (fun _ _ hh => hh.rd) hB hl hcap) V.b25  rfl (.cons (by exact rr0) .nil) rfl ?_
  rintro _ _ ⟨q54, c54, rfl, rfl⟩
  refine rO TTDfH 2 rfl ?_
  refine o_eff (v_store V.s23 rfl rfl rfl (by exact pp2) (by exact Nat.le_of_ble_eq_true rfl) rfl) ?_
  refine rO TTDfH 2 rfl ?_
  refine o_eff (v_store V.s4 rfl rfl rfl (by exact pp2) (by exact Nat.le_of_ble_eq_true rfl) rfl) ?_
  refine rO TTDfH 7 rfl ?_
  refine o_val (v_load V.s4 rfl (by exact mm2) rfl) rfl ?_
  refine rO TTDfH 4 rfl ?_
  exact ret_ok (G := [DD b (DefP.shF B)]) (res1 rfl) ⟨rfl, rfl⟩ (Sl.Sub.trans (fold' (.cons (by exact rr2) (.cons (by exact rr0) .nil)) .refl (fun w0 h hh => dd_close hh)) (sub (.cons (by exact rr0) .nil) (by exact dd1)))
end Go.Proofs.Ythmgkggpipnalaa

/-
  Steps of the proof: walks of functions that the statement reaches; printed by a program of ours.
-/
namespace Go.Proofs.Ythmgkggpipnalaa
open Go.Sl 
set_option linter.unusedVariables false
theorem TTDfI : okT Try.prog ⟨[], []⟩ = true := by kernel_rfl
set_option linter.unusedSimpArgs false

attribute [local irreducible] DefP.shF

set_option maxRecDepth 100000 in
theorem m_all (p : Option Addr) (c : Nat) (B : List Int) (R : HProp) (hR : ∀ w0 h, R w0 h → RdR U5 p B.length B w0 h) (hl : B.length ≤ 4194304) (hB : BitP.Byt B) : Ctr Try.prog 11 [.slice p B.length c] [R] (Ret fun v G => ∃ q c, v = .slice q (DefP.shF B).length c ∧ G = [Row U5 q (DefP.shF B).length c (DefP.shF B), R]) := by
  refine spec_of [(0, _)] Try.func11 rfl Try.ntmps11 rfl rfl ?_
  intro w0 F
  have hsl := DefP.shF_bd (B := B) hB hl
  refine rT TTDfI 8 rfl ?_
  refine o_call (m_new p c B R hR hl) V.b14  rfl (.cons (by exact rr0) .nil) rfl ?_
  rintro _ _ ⟨b5, rfl, rfl⟩
  refine rO TTDfI 6 rfl ?_
  refine o_call (m_stepN2 b5 B 0 4194304 (by omega) (by omega) hl (by omega) hB) V.b16  rfl (.cons (by exact rr0) .nil) rfl ?_
  rintro _ _ ⟨rfl, rfl⟩
  refine rO TTDfI 5 rfl ?_
  refine o_call (m_outD b5 (DefP.shF B) (by omega)) V.b17  rfl (.cons (by exact rr0) .nil) rfl ?_
  rintro _ _ ⟨q9, c9, rfl, rfl⟩
  refine rO TTDfI 4 rfl ?_
  exact ret_ok (G := [Row U5 q9 (DefP.shF B).length c9 (DefP.shF B), R]) (res1 rfl) ⟨q9, c9, rfl, rfl⟩ (sub (.cons (by exact rr0) (.cons (by exact rr1) .nil)) (by exact dd1))

set_option maxRecDepth 100000 in
theorem m_most (n : Int) (hn : n ≤ 1000000000000) : Ctr Try.prog 13 [.int .i64 n] [] (Ret fun v G => v = .int .i64 (DefP.most n) ∧ G = []) := by
  refine spec_of [(0, _)] Try.func13 rfl Try.ntmps13 rfl rfl ?_
  intro w0 F
  have hx := DefP.nn0_in n
  have hxl : (DefP.nn0 n) ≤ 1000000000000 := by unfold DefP.nn0; split <;> omega
  have hq : 0 ≤ (DefP.nn0 n) / 65535 ∧ (DefP.nn0 n) / 65535 ≤ (DefP.nn0 n) := ⟨Int.ediv_nonneg hx (by decide), Int.ediv_le_self _ hx⟩
  refine rT TTDfI 8 rfl ?_
  refine o_val (v_to (v := .int .i64 (DefP.nn0 n)) (v_max rfl rfl) (by unfold DefP.nn0; rfl)) rfl ?_
  refine rO TTDfI 6 rfl ?_
  refine o_val (v_quo (r := (DefP.nn0 n) / 65535) rfl rfl (by decide) (quoI (by omega) (by omega) (by omega))) rfl ?_
  refine rO TTDfI 7 rfl ?_
  refine o_val (v_rem (r := (DefP.nn0 n) % 65535) rfl rfl (by decide) (remI (by omega))) rfl ?_
  refine rO TTDfI 3 rfl ?_
  refine w_condD rfl (fun h10 => ?_) (fun h10 => ?_)
  ·
    refine rCs TTDfI 17 rfl (by omega) ?_
    (rw [show Value.int .i64 _ = .int .i64 (DefP.most n) from congrArg _ (DefP.most_yes (by assumption)).symm]; exact ret_ok (G := []) (res1 rfl) ⟨rfl, rfl⟩ (sub .nil (by exact dd0)))
  ·
    refine rCs TTDfI 13 rfl (by omega) ?_
    exact ret_ok (G := []) (res1 rfl) ⟨by rw [DefP.most_no (by assumption)], rfl⟩ (sub .nil (by exact dd0))


section
variable (b : Nat) (B : List Int) (s : Option Nat)
def DOk (B : List Int) : Option Nat → Prop
  | some t => t ≤ B.length
  | none => True
/-- What is told. -/
def outZ (B : List Int) : Option Nat → List Int
  | some _ => []
  | none => DefP.shF B
end

end Go.Proofs.Ythmgkggpipnalaa

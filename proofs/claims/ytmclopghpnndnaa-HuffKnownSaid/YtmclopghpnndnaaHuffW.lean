/-
  Steps of the proof: walks of functions that the statement reaches; printed by a program of ours.
-/
import Derived.Test.YtmclopghpnndnaaHuffV
import Derived.Test.YtmclopghpnndnaaHuffL
import Derived.Test.YtmclopghpnndnaaM26
import Derived.Test.YtmclopghpnndnaaHuffFacts4
namespace Go.Proofs.Ytmclopghpnndnaa
open Go.Sl 
set_option linter.unusedVariables false
set_option linter.unusedSimpArgs false


theorem dq0 {M F : List HProp} : Drop (M ++ F) F := by
  induction M with
  | nil => exact .refl
  | cons a M ih => exact .skip ih
theorem dq2 {a0 a1 : HProp} {M F : List HProp} : Drop (a0 :: a1 :: (M ++ F)) F := .skip (.skip dq0)
theorem st_callP' {C : Ctx} {E : Env} {L F : List HProp} {ops : Array Oper} {d : Option Nat} {ty : TypeId} {pos : String} {aft : Array Edge} {A : Nat → HProp} {f : FuncId} {args : List Operand} {tys : Array TypeId} {vs : List Value} {Pre Post : List HProp} (hS : Ctr C.P f vs Pre (Ret fun v G => ∃ b, v = .pointer (some ⟨b, 0, none⟩) ∧ G = A b :: Post)) (hb : bodyB C.P f = true) (hE : evs E args = some vs) (hL : Rems L Pre F) :
    Step C ops ⟨d, .call ⟨.value (.func f), args.toArray, tys⟩, ty, pos, aft, none⟩ E L (fun v L' => v = .pointer (some ⟨ptB v, 0, none⟩) ∧ True ∧ L'.Perm ((A (ptB v) :: Post) ++ F)) :=
  st_call hS hb hE hL fun v G ⟨b, e1, e2⟩ => by subst e1; subst e2; exact ⟨rfl, trivial, .refl _⟩
theorem kn1 : HuffP.newE [0, 0, 1] = 0 := by decide +kernel
theorem kn2 : HuffP.newE [] = 0 := by decide +kernel
theorem kn3 : HuffP.newE [2] = 4 := by decide +kernel
theorem kn4 : HuffP.newE [16] = 1 := by decide +kernel
theorem kn5 : HuffP.newE (List.replicate 321 I3.d) = 1 := HuffP.newE_long (by rw [List.length_replicate]; decide)
theorem kn6 : HuffP.newE [1, 2] = 4 := by decide +kernel
theorem kt1 : HuffP.tk [0, 0, 1] [0] 0 = .hit 1 2 := by kernel_rfl
theorem kt2 : HuffP.tk [0, 0, 1] [1] 0 = .none_ 1 := by kernel_rfl
theorem kt3 : HuffP.tk [] [0] 0 = .none_ 0 := by kernel_rfl
theorem ko1 : OkL [0, 5, 0] 7 := ⟨by decide, by decide, by decide, by decide, by decide +kernel⟩
theorem ko2 : OkL [1, 1, 2, 3, 5, 8, 13, 21] 4 := ⟨by decide, by decide, by decide, by decide, by decide +kernel⟩
theorem ko3 : ¬ OkL [1, 1, 1] 1 := fun h => absurd h.few (by decide +kernel)
theorem kv1 {o : List Int} (h : PkM.GoodL [0, 5, 0] (7 : Int).toNat o) : o.getD 1 0 = 1 := by
  have h1 := h.pos 1 (by decide) (by decide)
  have h2 := h.one (by decide +kernel) 1
  omega
theorem kv2 {o : List Int} (h : PkM.GoodL [1, 1, 2, 3, 5, 8, 13, 21] (4 : Int).toNat o) : 3 ≤ o.getD 0 0 ∧ o.getD 0 0 ≤ 4 := by
  have hp : ∀ i, i < 8 → 1 ≤ o.getD i 0 ∧ o.getD i 0 ≤ 4 := fun i hi => h.pos i (by simpa using hi) (by
    have : ∀ i : Nat, i < 8 → (0 : Int) < [1, 1, 2, 3, 5, 8, 13, 21].getD i 0 := by decide
    exact this i hi)
  have hd : ∀ i, 2 ≤ i → i < 8 → o.getD i 0 ≤ o.getD 0 0 := fun i h2 hi => h.down i 0 (by simpa using hi) (by decide) (by
    have : ∀ i : Nat, i < 8 → 2 ≤ i → ([1, 1, 2, 3, 5, 8, 13, 21] : List Int).getD 0 0 < [1, 1, 2, 3, 5, 8, 13, 21].getD i 0 := by decide
    exact this i hi h2) (by decide)
  refine ⟨?_, (hp 0 (by decide)).2⟩
  by_cases hlt : o.getD 0 0 < 3
  · exfalso
    have hl : o.length = 8 := h.len
    have hw : ∀ i, i < 8 → i ≠ 1 → (8192 : Int) ≤ if 0 < o.getD i 0 then 2 ^ (15 - HuffP.lenOf o i) else 0 := fun i hi hne => by
      have h1 := hp i hi
      have h2 : o.getD i 0 ≤ 2 := by
        rcases Nat.eq_zero_or_pos i with rfl | h0
        · omega
        · have := hd i (by omega) hi; omega
      rw [if_pos (by omega)]
      have e : HuffP.lenOf o i = (o.getD i 0).toNat := rfl
      rw [e]
      have h3 : (o.getD i 0).toNat = 1 ∨ (o.getD i 0).toNat = 2 := by omega
      rcases h3 with h3 | h3 <;> rw [h3] <;> decide
    have w1 : (0 : Int) ≤ if 0 < o.getD 1 0 then 2 ^ (15 - HuffP.lenOf o 1) else 0 := by
      split
      · exact Int.le_of_lt (Int.pow_pos (by decide))
      · exact Int.le_refl _
    have hf : 57344 ≤ HuffP.fullK o o.length := by
      rw [hl]
      simp only [HuffP.fullK]
      have a0 := hw 0 (by decide) (by decide)
      have a2 := hw 2 (by decide) (by decide)
      have a3 := hw 3 (by decide) (by decide)
      have a4 := hw 4 (by decide) (by decide)
      have a5 := hw 5 (by decide) (by decide)
      have a6 := hw 6 (by decide) (by decide)
      have a7 := hw 7 (by decide) (by decide)
      omega
    rcases HuffP.full_end h.code with e | e | e
    · omega
    · unfold HuffP.posn at e
      rw [List.length_map, List.length_eq_zero_iff, List.filter_eq_nil_iff] at e
      exact e 0 (by rw [hl]; decide) (decide_eq_true (by have := hp 0 (by decide); omega))
    · omega
  · omega


attribute [local irreducible] HuffP.newE HuffP.tk PkM.lvs HuffP.ord HuffP.words HuffP.cntL HuffP.mostL

set_option maxRecDepth 100000 in
theorem kno1 (x1 x13 b : Nat) (z : Int) : Ctr Try.prog 25 [.pointer (some ⟨x1, 0, none⟩), .pointer (some ⟨x13, 0, none⟩)] [Cel x13 3 [.int .i64 z], Cel x1 24 [.pointer (some ⟨b, 0, none⟩)], HC b [0, 0, 1]] (Ret fun v G => G = [Cel x13 3 [.int .i64 2], Cel x1 24 [.pointer (some ⟨b, 0, none⟩)], HC b [0, 0, 1]]) := by
  refine spec_of [(0, _), (1, _)] Try.func25 rfl Try.ntmps25 rfl rfl ?_
  intro w0 F
  refine w_net [⟨[], [], [0], 0, 0⟩, ⟨[], [], [], 0, 0⟩, ⟨[1], [1], [], 0, 0⟩, ⟨[0, 1, 2], [0, 2], [], 0, 0⟩, ⟨[0, 1, 2, 3], [3], [1], 0, 0⟩] [⟨fun y => Cel x13 3 [.int .i64 z], none, some 4, []⟩, ⟨fun y => Cel x1 24 [.pointer (some ⟨b, 0, none⟩)], none, none, [0]⟩, ⟨fun y => HC b [0, 0, 1], none, some 3, []⟩, ⟨fun y => Row (U5) (some ⟨(blk' (slP (y 1))), 0, none⟩) 1 1 [0], some 1, some 2, []⟩, ⟨fun y => LW (ptB (y 2)) [0] 0 [] 0, some 2, some 3, []⟩, ⟨fun y => Row U5 (some ⟨(blk' (slP (y 1))), 0, none⟩) 1 1 [0], some 2, none, []⟩, ⟨fun y => HC b [0, 0, 1], some 3, none, []⟩, ⟨fun y => LW (ptB (y 2)) [0] (0 + 1) [] 0, some 3, none, []⟩, ⟨fun y => Cel x13 3 [.int .i64 2], some 4, none, []⟩] F V.mixed (by kernel_rfl) rfl (fun _ => .refl _) (locT_0 _ (locT_0 _ (locT_0 _ (locT_1 [] rfl (by intro y y2 h; simp only [h 1 (.inl rfl)]) (locT_1 [1] rfl (by intro y y2 h; simp only [h 2 (.inl rfl)]) (locT_1 [1] rfl (by intro y y2 h; simp only [h 1 (.inr (by decide))]) (locT_1 [0, 1, 2] rfl (by intro y y2 h; rfl) (locT_1 [0, 1, 2] rfl (by intro y y2 h; simp only [h 2 (.inr (by decide))]) (locT_1 [0, 1, 2, 3] rfl (by intro y y2 h; rfl) locT_nil))))))))) ?_
  refine net_read (fun y => [Cel x1 24 [.pointer (some ⟨b, 0, none⟩)]]) (fun y => [(0, _)]) (fun y => rfl) rfl (fun y => rfl) rfl (fun y FF hA => st_v (v_load V.s24 rfl (by repeat first | exact .head _ | apply List.Mem.tail) rfl) ⟨rfl, rfl⟩) (by intros; rfl) (by intro y y2 h; rfl) ?_
  refine net_new (fun y v => .slice (some ⟨blk' (slP v), 0, none⟩) 1 1) (fun y v => True) (fun y => []) (fun y => []) (fun y v => [Row (U5) (some ⟨(blk' (slP v)), 0, none⟩) 1 1 [0]]) (fun y => []) (fun y => rfl) (fun y => rfl) (fun y => rfl) (fun y => rfl) (fun y FF hA => st_newN (r_buildX (U5) ([0]) V.sl35 V.z5 rfl rfl rfl rfl rfl)) (by intros; rfl) (by intros; rfl) (by intros; rfl) (by intro y y2 h; simp only [h 1 (.inl rfl)]) (by intro y y2 h; rfl) ?_
  refine net_new (fun y v => .pointer (some ⟨ptB v, 0, none⟩)) (fun y v => True) (fun y => [Row (U5) (some ⟨(blk' (slP (y 1))), 0, none⟩) 1 1 [0]]) (fun y => []) (fun y v => [LW (ptB v) [0] 0 [] 0, Row U5 (some ⟨(blk' (slP (y 1))), 0, none⟩) 1 1 [0]]) (fun y => [(3, _)]) (fun y => rfl) (fun y => rfl) (fun y => rfl) (fun y => rfl) (fun y FF hA => st_callP' (A := fun z => LW z [0] 0 [] 0) (Post := [Row U5 (some ⟨(blk' (slP (y 1))), 0, none⟩) 1 1 [0]]) (c_newLow (some ⟨(blk' (slP (y 1))), 0, none⟩) 1 [0] (Row U5 (some ⟨(blk' (slP (y 1))), 0, none⟩) 1 1 [0]) (fun _ _ h => h.rd) (by decide)) V.b14 rfl (.cons (by repeat first | exact .head | apply Rem.tail) .nil)) (by intros; rfl) (by intros; rfl) (by intros; rfl) (by intro y y2 h; simp only [h 1 (.inr (by decide)), h 2 (.inl rfl)]) (by intro y y2 h; rfl) ?_
  refine net_eff (fun y => [HC b [0, 0, 1], LW (ptB (y 2)) [0] 0 [] 0]) (fun y => []) (fun y => [HC b [0, 0, 1], LW (ptB (y 2)) [0] (0 + 1) [] 0]) (fun y => [(2, _), (4, _)]) (fun y => rfl) (fun y => rfl) (fun y => rfl) (fun y => rfl) (fun y FF hA => st_callN (Post := [HC b [0, 0, 1], LW (ptB (y 2)) [0] (0 + 1) [] 0]) (h_take_hit b [0, 0, 1] (ptB (y 2)) [0] 0 [] 0 kn1 (by decide) (by intro x hx; simp at hx; subst hx; decide) (by decide) kt1) V.b17 rfl (.cons (by repeat first | exact .head | apply Rem.tail) (.cons (by repeat first | exact .head | apply Rem.tail) .nil)) (fun v G h => by rcases h with ⟨rfl, rfl⟩; exact ⟨rfl, .refl _⟩)) (by intros; rfl) (by intros; rfl) (by intro y y2 h; first | rfl | simp only [h 2 (.inr (by decide))]) ?_
  refine net_eff (fun y => [Cel x13 3 [.int .i64 z]]) (fun y => []) (fun y => [Cel x13 3 [.int .i64 2]]) (fun y => [(5, _), (1, _)]) (fun y => rfl) (fun y => rfl) (fun y => rfl) (fun y => rfl) (fun y FF hA => st_v (v_store V.s3 rfl rfl rfl (by repeat first | exact .head | apply Rep.tail) (by exact Nat.le_of_ble_eq_true rfl) rfl) ⟨rfl, .refl _⟩) (by intros; rfl) (by intros; rfl) (by intro y y2 h; rfl) ?_
  refine net_nil ?_
  intro y hA
  clear hA
  show retQ _ _ _ _ _ _ (Cel x1 24 [.pointer (some ⟨b, 0, none⟩)] :: Row U5 (some ⟨(blk' (slP (y 1))), 0, none⟩) 1 1 [0] :: HC b [0, 0, 1] :: LW (ptB (y 2)) [0] (0 + 1) [] 0 :: Cel x13 3 [.int .i64 2] :: F)
  generalize (blk' (slP (y 1))) = b3
  generalize (ptB (y 2)) = q4
  exact end_ok (G := [Cel x13 3 [.int .i64 2], Cel x1 24 [.pointer (some ⟨b, 0, none⟩)], HC b [0, 0, 1]]) res0 rfl (sub (.cons (by repeat first | exact .head | apply Rem.tail) (.cons (by repeat first | exact .head | apply Rem.tail) (.cons (by repeat first | exact .head | apply Rem.tail) .nil))) (by repeat first | exact .refl | apply Drop.skip))

set_option maxRecDepth 100000 in
theorem kno2 (x1 b : Nat) : Ctr Try.prog 26 [.pointer (some ⟨x1, 0, none⟩)] [Cel x1 24 [.pointer (some ⟨b, 0, none⟩)], HC b [0, 0, 1]] (Pan fun ch G => (∃ t u, ch = pan1 t u) ∧ G = []) := by
  refine spec_of [(0, _)] Try.func26 rfl Try.ntmps26 rfl rfl ?_
  intro w0 F
  refine w_net [⟨[], [], [0], 0, 0⟩, ⟨[], [], [], 0, 0⟩, ⟨[1], [1], [], 0, 0⟩, ⟨[0, 1, 2], [0, 2], [], 0, 0⟩] [⟨fun y => Cel x1 24 [.pointer (some ⟨b, 0, none⟩)], none, none, [0]⟩, ⟨fun y => HC b [0, 0, 1], none, none, [3]⟩, ⟨fun y => Row (U5) (some ⟨(blk' (slP (y 1))), 0, none⟩) 1 1 [1], some 1, some 2, []⟩, ⟨fun y => LW (ptB (y 2)) [1] 0 [] 0, some 2, none, [3]⟩, ⟨fun y => Row U5 (some ⟨(blk' (slP (y 1))), 0, none⟩) 1 1 [1], some 2, none, []⟩] F V.mixed (by kernel_rfl) rfl (fun _ => .refl _) (locT_0 _ (locT_0 _ (locT_1 [] rfl (by intro y y2 h; simp only [h 1 (.inl rfl)]) (locT_1 [1] rfl (by intro y y2 h; simp only [h 2 (.inl rfl)]) (locT_1 [1] rfl (by intro y y2 h; simp only [h 1 (.inr (by decide))]) locT_nil))))) ?_
  refine net_read (fun y => [Cel x1 24 [.pointer (some ⟨b, 0, none⟩)]]) (fun y => [(0, _)]) (fun y => rfl) rfl (fun y => rfl) rfl (fun y FF hA => st_v (v_load V.s24 rfl (by repeat first | exact .head _ | apply List.Mem.tail) rfl) ⟨rfl, rfl⟩) (by intros; rfl) (by intro y y2 h; rfl) ?_
  refine net_new (fun y v => .slice (some ⟨blk' (slP v), 0, none⟩) 1 1) (fun y v => True) (fun y => []) (fun y => []) (fun y v => [Row (U5) (some ⟨(blk' (slP v)), 0, none⟩) 1 1 [1]]) (fun y => []) (fun y => rfl) (fun y => rfl) (fun y => rfl) (fun y => rfl) (fun y FF hA => st_newN (r_buildX (U5) ([1]) V.sl35 V.z5 rfl rfl rfl rfl rfl)) (by intros; rfl) (by intros; rfl) (by intros; rfl) (by intro y y2 h; simp only [h 1 (.inl rfl)]) (by intro y y2 h; rfl) ?_
  refine net_new (fun y v => .pointer (some ⟨ptB v, 0, none⟩)) (fun y v => True) (fun y => [Row (U5) (some ⟨(blk' (slP (y 1))), 0, none⟩) 1 1 [1]]) (fun y => []) (fun y v => [LW (ptB v) [1] 0 [] 0, Row U5 (some ⟨(blk' (slP (y 1))), 0, none⟩) 1 1 [1]]) (fun y => [(2, _)]) (fun y => rfl) (fun y => rfl) (fun y => rfl) (fun y => rfl) (fun y FF hA => st_callP' (A := fun z => LW z [1] 0 [] 0) (Post := [Row U5 (some ⟨(blk' (slP (y 1))), 0, none⟩) 1 1 [1]]) (c_newLow (some ⟨(blk' (slP (y 1))), 0, none⟩) 1 [1] (Row U5 (some ⟨(blk' (slP (y 1))), 0, none⟩) 1 1 [1]) (fun _ _ h => h.rd) (by decide)) V.b14 rfl (.cons (by repeat first | exact .head | apply Rem.tail) .nil)) (by intros; rfl) (by intros; rfl) (by intros; rfl) (by intro y y2 h; simp only [h 1 (.inr (by decide)), h 2 (.inl rfl)]) (by intro y y2 h; rfl) ?_
  refine net_pan (undef) (fun y => [HC b [0, 0, 1], LW (ptB (y 2)) [1] 0 [] 0]) (fun y => [(1, _), (3, _)]) (fun y => rfl) rfl (fun y => rfl) (fun y FF hA => st_callE (h_take_err b [0, 0, 1] (ptB (y 2)) [1] 0 [] 0 kn1 (by decide) (by intro x hx; simp at hx; subst hx; decide) (by decide) (by intro n s; rw [kt2]; intro h; cases h)) V.b17 rfl (.cons (by repeat first | exact .head | apply Rem.tail) (.cons (by repeat first | exact .head | apply Rem.tail) .nil)) (by rintro _ _ ⟨⟨t, u, rfl⟩, n, rfl⟩; exact x_pan (P := Try.prog) (f := 0) (G' := []) ⟨⟨t, u, rfl⟩, rfl⟩ (sub .nil (dq2 (M := FF) (F := F))))) ?_
  refine net_nil ?_
  intro y hA
  exact (KnN.fact (hA 3 (by exact Nat.le_of_ble_eq_true rfl)) (q := fun _ => False) rfl).elim

set_option maxRecDepth 100000 in
theorem kno3 (x1 b : Nat) : Ctr Try.prog 27 [.pointer (some ⟨x1, 0, none⟩)] [Cel x1 24 [.pointer (some ⟨b, 0, none⟩)], HC b []] (Pan fun ch G => (∃ t u, ch = pan1 t u) ∧ G = []) := by
  refine spec_of [(0, _)] Try.func27 rfl Try.ntmps27 rfl rfl ?_
  intro w0 F
  refine w_net [⟨[], [], [0], 0, 0⟩, ⟨[], [], [], 0, 0⟩, ⟨[1], [1], [], 0, 0⟩, ⟨[0, 1, 2], [0, 2], [], 0, 0⟩] [⟨fun y => Cel x1 24 [.pointer (some ⟨b, 0, none⟩)], none, none, [0]⟩, ⟨fun y => HC b [], none, none, [3]⟩, ⟨fun y => Row (U5) (some ⟨(blk' (slP (y 1))), 0, none⟩) 1 1 [0], some 1, some 2, []⟩, ⟨fun y => LW (ptB (y 2)) [0] 0 [] 0, some 2, none, [3]⟩, ⟨fun y => Row U5 (some ⟨(blk' (slP (y 1))), 0, none⟩) 1 1 [0], some 2, none, []⟩] F V.mixed (by kernel_rfl) rfl (fun _ => .refl _) (locT_0 _ (locT_0 _ (locT_1 [] rfl (by intro y y2 h; simp only [h 1 (.inl rfl)]) (locT_1 [1] rfl (by intro y y2 h; simp only [h 2 (.inl rfl)]) (locT_1 [1] rfl (by intro y y2 h; simp only [h 1 (.inr (by decide))]) locT_nil))))) ?_
  refine net_read (fun y => [Cel x1 24 [.pointer (some ⟨b, 0, none⟩)]]) (fun y => [(0, _)]) (fun y => rfl) rfl (fun y => rfl) rfl (fun y FF hA => st_v (v_load V.s24 rfl (by repeat first | exact .head _ | apply List.Mem.tail) rfl) ⟨rfl, rfl⟩) (by intros; rfl) (by intro y y2 h; rfl) ?_
  refine net_new (fun y v => .slice (some ⟨blk' (slP v), 0, none⟩) 1 1) (fun y v => True) (fun y => []) (fun y => []) (fun y v => [Row (U5) (some ⟨(blk' (slP v)), 0, none⟩) 1 1 [0]]) (fun y => []) (fun y => rfl) (fun y => rfl) (fun y => rfl) (fun y => rfl) (fun y FF hA => st_newN (r_buildX (U5) ([0]) V.sl35 V.z5 rfl rfl rfl rfl rfl)) (by intros; rfl) (by intros; rfl) (by intros; rfl) (by intro y y2 h; simp only [h 1 (.inl rfl)]) (by intro y y2 h; rfl) ?_
  refine net_new (fun y v => .pointer (some ⟨ptB v, 0, none⟩)) (fun y v => True) (fun y => [Row (U5) (some ⟨(blk' (slP (y 1))), 0, none⟩) 1 1 [0]]) (fun y => []) (fun y v => [LW (ptB v) [0] 0 [] 0, Row U5 (some ⟨(blk' (slP (y 1))), 0, none⟩) 1 1 [0]]) (fun y => [(2, _)]) (fun y => rfl) (fun y => rfl) (fun y => rfl) (fun y => rfl) (fun y FF hA => st_callP' (A := fun z => LW z [0] 0 [] 0) (Post := [Row U5 (some ⟨(blk' (slP (y 1))), 0, none⟩) 1 1 [0]]) (c_newLow (some ⟨(blk' (slP (y 1))), 0, none⟩) 1 [0] (Row U5 (some ⟨(blk' (slP (y 1))), 0, none⟩) 1 1 [0]) (fun _ _ h => h.rd) (by decide)) V.b14 rfl (.cons (by repeat first | exact .head | apply Rem.tail) .nil)) (by intros; rfl) (by intros; rfl) (by intros; rfl) (by intro y y2 h; simp only [h 1 (.inr (by decide)), h 2 (.inl rfl)]) (by intro y y2 h; rfl) ?_
  refine net_pan (undef) (fun y => [HC b [], LW (ptB (y 2)) [0] 0 [] 0]) (fun y => [(1, _), (3, _)]) (fun y => rfl) rfl (fun y => rfl) (fun y FF hA => st_callE (h_take_err b [] (ptB (y 2)) [0] 0 [] 0 kn2 (by decide) (by intro x hx; simp at hx; subst hx; decide) (by decide) (by intro n s; rw [kt3]; intro h; cases h)) V.b17 rfl (.cons (by repeat first | exact .head | apply Rem.tail) (.cons (by repeat first | exact .head | apply Rem.tail) .nil)) (by rintro _ _ ⟨⟨t, u, rfl⟩, n, rfl⟩; exact x_pan (P := Try.prog) (f := 0) (G' := []) ⟨⟨t, u, rfl⟩, rfl⟩ (sub .nil (dq2 (M := FF) (F := F))))) ?_
  refine net_nil ?_
  intro y hA
  exact (KnN.fact (hA 3 (by exact Nat.le_of_ble_eq_true rfl)) (q := fun _ => False) rfl).elim

set_option maxHeartbeats 2000000 in
set_option maxRecDepth 100000 in
theorem known  : Ctr Try.prog 8 [] [] (Ret fun v G => v = .bool true ∧ G = []) := by
  refine spec_of [] Try.func8 rfl Try.ntmps8 rfl rfl ?_
  intro w0 F
  refine w_seq ?_
  refine w_region ?_
  refine o_val (v_assign rfl) rfl ?_
  refine o_nil ?_
  refine thn_n ?_
  refine w_seq ?_
  refine w_seq ?_
  refine w_region ?_
  refine o_call (awake) V.b9  rfl .nil rfl ?_
  rintro _ _ ⟨rfl, rfl⟩
  refine o_val (v_to (v := .bool false) (v_not rfl) rfl) rfl ?_
  refine o_nil ?_
  refine thn_n ?_
  refine w_condF rfl ?_
  refine w_skip ?_
  refine thn_n ?_
  refine w_seq ?_
  refine w_region ?_
  refine r_build (I3) [0, 0, 1] V.sl22 V.z3 rfl rfl rfl rfl rfl rfl ?_
  intro b26
  refine o_call (h_new_yes (some ⟨b26, 0, none⟩) 3 [0, 0, 1] (Row I3 (some ⟨b26, 0, none⟩) 3 3 [0, 0, 1]) (fun _ _ h => h.rd) kn1) V.b10  rfl (.cons (by repeat first | exact .head | apply Rem.tail) .nil) rfl ?_
  rintro _ _ ⟨c1, rfl, rfl⟩
  refine o_val (v_move rfl) rfl ?_
  refine o_val (v_extract rfl rfl) rfl ?_
  refine o_val (v_extract rfl rfl) rfl ?_
  refine o_alloc V.z24 rfl ?_
  intro b1
  refine o_eff (v_store V.s24 rfl rfl rfl (by repeat first | exact .head | apply Rep.tail) (by exact Nat.le_of_ble_eq_true rfl) rfl) ?_
  refine o_val (v_assign rfl) rfl ?_
  refine o_nil ?_
  refine thn_n ?_
  refine w_seq ?_
  refine w_region ?_
  refine o_add0 (Row I3 none 0 0 []) (Row.nil _ _ _) ?_
  refine o_call (h_new_yes none 0 [] (Row I3 none 0 0 []) (fun _ _ h => h.rd) kn2) V.b10  rfl (.cons (by repeat first | exact .head | apply Rem.tail) .nil) rfl ?_
  rintro _ _ ⟨c2, rfl, rfl⟩
  refine o_val (v_move rfl) rfl ?_
  refine o_val (v_extract rfl rfl) rfl ?_
  refine o_val (v_extract rfl rfl) rfl ?_
  refine o_alloc V.z24 rfl ?_
  intro b3
  refine o_eff (v_store V.s24 rfl rfl rfl (by repeat first | exact .head | apply Rep.tail) (by exact Nat.le_of_ble_eq_true rfl) rfl) ?_
  refine o_val (v_assign rfl) rfl ?_
  refine o_nil ?_
  refine thn_n ?_
  refine w_seq ?_
  refine w_region ?_
  refine r_build (I3) [2] V.sl22 V.z3 rfl rfl rfl rfl rfl rfl ?_
  intro b35
  refine o_call (h_new_no (some ⟨b35, 0, none⟩) 1 [2] (Row I3 (some ⟨b35, 0, none⟩) 1 1 [2]) (fun _ _ h => h.rd) (by rw [kn3]; decide)) V.b10  rfl (.cons (by repeat first | exact .head | apply Rem.tail) .nil) rfl ?_
  rintro _ _ ⟨rfl, rfl⟩
  rw [kn3]
  refine o_val (v_move rfl) rfl ?_
  refine o_val (v_extract rfl rfl) rfl ?_
  refine o_val (v_extract rfl rfl) rfl ?_
  refine o_val (v_assign rfl) rfl ?_
  refine o_val (v_assign rfl) rfl ?_
  refine o_nil ?_
  refine thn_n ?_
  refine w_seq ?_
  refine w_region ?_
  refine r_build (I3) [16] V.sl22 V.z3 rfl rfl rfl rfl rfl rfl ?_
  intro b40
  refine o_call (h_new_no (some ⟨b40, 0, none⟩) 1 [16] (Row I3 (some ⟨b40, 0, none⟩) 1 1 [16]) (fun _ _ h => h.rd) (by rw [kn4]; decide)) V.b10  rfl (.cons (by repeat first | exact .head | apply Rem.tail) .nil) rfl ?_
  rintro _ _ ⟨rfl, rfl⟩
  rw [kn4]
  refine o_val (v_move rfl) rfl ?_
  refine o_val (v_extract rfl rfl) rfl ?_
  refine o_val (v_extract rfl rfl) rfl ?_
  refine o_val (v_assign rfl) rfl ?_
  refine o_val (v_assign rfl) rfl ?_
  refine o_nil ?_
  refine thn_n ?_
  refine w_seq ?_
  refine w_region ?_
  refine r_makeN 321 321 (I3) rfl rfl V.sl22 V.z3 rfl rfl rfl rfl (by first | omega | (simp only [List.length_cons, List.length_nil]; omega)) (by first | omega | (simp only [List.length_cons, List.length_nil]; omega)) rfl rfl ?_
  intro b45
  refine o_call ((by have h := h_new_no (some ⟨b45, 0, none⟩) 321 (List.replicate 321 I3.d) (Row I3 (some ⟨b45, 0, none⟩) 321 321 (List.replicate 321 I3.d)) (fun w0 h hh => by rw [List.length_replicate]; exact hh.rd) (by rw [kn5]; decide); rw [List.length_replicate] at h; exact h)) V.b10  rfl (.cons (by repeat first | exact .head | apply Rem.tail) .nil) rfl ?_
  rintro _ _ ⟨rfl, rfl⟩
  rw [kn5]
  refine o_val (v_move rfl) rfl ?_
  refine o_val (v_extract rfl rfl) rfl ?_
  refine o_val (v_extract rfl rfl) rfl ?_
  refine o_val (v_assign rfl) rfl ?_
  refine o_val (v_assign rfl) rfl ?_
  refine o_nil ?_
  refine thn_n ?_
  refine w_seq ?_
  refine w_region ?_
  refine r_build (I3) [1, 2] V.sl22 V.z3 rfl rfl rfl rfl rfl rfl ?_
  intro b50
  refine o_call (h_new_no (some ⟨b50, 0, none⟩) 2 [1, 2] (Row I3 (some ⟨b50, 0, none⟩) 2 2 [1, 2]) (fun _ _ h => h.rd) (by rw [kn6]; decide)) V.b10  rfl (.cons (by repeat first | exact .head | apply Rem.tail) .nil) rfl ?_
  rintro _ _ ⟨rfl, rfl⟩
  rw [kn6]
  refine o_val (v_move rfl) rfl ?_
  refine o_val (v_extract rfl rfl) rfl ?_
  refine o_val (v_extract rfl rfl) rfl ?_
  refine o_val (v_assign rfl) rfl ?_
  refine o_val (v_assign rfl) rfl ?_
  refine o_nil ?_
  refine thn_n ?_
  refine w_seq ?_
  refine w_seq ?_
  refine w_region ?_
  refine o_val (v_move rfl) rfl ?_
  refine o_val (v_F (v_neq rfl rfl) (fun h => h rfl)) rfl ?_
  refine o_val (v_move rfl) rfl ?_
  refine o_want rfl ?_
  refine o_val (v_move rfl) rfl ?_
  refine o_want rfl ?_
  refine o_val (v_F (v_neq rfl rfl) (fun h => h rfl)) rfl ?_
  refine o_val (v_pickF rfl rfl) rfl ?_
  refine o_val (v_move rfl) rfl ?_
  refine o_want rfl ?_
  refine o_val (v_load V.s24 rfl (by repeat first | exact .head _ | apply List.Mem.tail) rfl) rfl ?_
  refine o_want rfl ?_
  refine o_val (v_to (v := .bool false) (v_eqnil Try.underlying24 rfl rfl) rfl) rfl ?_
  refine o_val (v_pickF rfl rfl) rfl ?_
  refine o_val (v_move rfl) rfl ?_
  refine o_want rfl ?_
  refine o_val (v_load V.s24 rfl (by repeat first | exact .head _ | apply List.Mem.tail) rfl) rfl ?_
  refine o_want rfl ?_
  refine o_val (v_to (v := .bool false) (v_eqnil Try.underlying24 rfl rfl) rfl) rfl ?_
  refine o_val (v_pickF rfl rfl) rfl ?_
  refine o_nil ?_
  refine thn_n ?_
  refine w_condF rfl ?_
  refine w_skip ?_
  refine thn_n ?_
  refine w_seq ?_
  refine w_region ?_
  refine o_alloc V.z3 rfl ?_
  intro b13
  refine o_eff (v_store V.s3 rfl rfl rfl (by repeat first | exact .head | apply Rep.tail) (by exact Nat.le_of_ble_eq_true rfl) rfl) ?_
  refine o_nil ?_
  refine thn_n ?_
  refine w_seq ?_
  refine w_region ?_
  refine o_val (v_fn (fs := []) (cs := [_, _]) rfl rfl) rfl ?_
  refine o_call (guard_ok (R := fun G => G = [Cel b13 3 [.int .i64 2], Cel b1 24 [.pointer (some ⟨c1, 0, none⟩)], HC c1 [0, 0, 1]]) (kno1 b1 b13 c1 (-1)) V.b25) V.b15  rfl (.cons (by repeat first | exact .head | apply Rem.tail) (.cons (by repeat first | exact .head | apply Rem.tail) (.cons (by repeat first | exact .head | apply Rem.tail) .nil))) rfl ?_
  rintro _ _ ⟨rfl, rfl⟩
  refine o_val (v_assign rfl) rfl ?_
  refine o_nil ?_
  refine thn_n ?_
  refine w_seq ?_
  refine w_region ?_
  refine o_val (v_fn (fs := []) (cs := [_]) rfl rfl) rfl ?_
  refine o_call (guard_no (R := fun G => G = []) (kno2 b1 c1) V.b26) V.b15  rfl (.cons (by repeat first | exact .head | apply Rem.tail) (.cons (by repeat first | exact .head | apply Rem.tail) .nil)) rfl ?_
  rintro _ _ ⟨rfl, rfl⟩
  refine o_val (v_assign rfl) rfl ?_
  refine o_nil ?_
  refine thn_n ?_
  refine w_seq ?_
  refine w_region ?_
  refine o_val (v_fn (fs := []) (cs := [_]) rfl rfl) rfl ?_
  refine o_call (guard_no (R := fun G => G = []) (kno3 b3 c2) V.b27) V.b15  rfl (.cons (by repeat first | exact .head | apply Rem.tail) (.cons (by repeat first | exact .head | apply Rem.tail) .nil)) rfl ?_
  rintro _ _ ⟨rfl, rfl⟩
  refine o_val (v_assign rfl) rfl ?_
  refine o_nil ?_
  refine thn_n ?_
  refine w_seq ?_
  refine w_region ?_
  refine r_build (I3) [0, 5, 0] V.sl22 V.z3 rfl rfl rfl rfl rfl rfl ?_
  intro b75
  refine o_call (h_len_yes (some ⟨b75, 0, none⟩) 3 [0, 5, 0] 7 (Row I3 (some ⟨b75, 0, none⟩) 3 3 [0, 5, 0]) (fun _ _ h => h.rd) ko1) V.b24  rfl (.cons (by repeat first | exact .head | apply Rem.tail) .nil) rfl ?_
  rintro _ _ ⟨bl, o1, rfl, hg1, rfl⟩
  have hv1 := kv1 hg1
  have hl1 : o1.length = 3 := hg1.len
  refine o_val (v_move rfl) rfl ?_
  refine o_val (v_extract rfl rfl) rfl ?_
  refine o_val (v_extract rfl rfl) rfl ?_
  refine o_val (v_assign rfl) rfl ?_
  refine o_val (v_assign rfl) rfl ?_
  refine o_nil ?_
  refine thn_n ?_
  refine w_seq ?_
  refine w_region ?_
  refine r_build (I3) [1, 1, 2, 3, 5, 8, 13, 21] V.sl22 V.z3 rfl rfl rfl rfl rfl rfl ?_
  intro b80
  refine o_call (h_len_yes (some ⟨b80, 0, none⟩) 8 [1, 1, 2, 3, 5, 8, 13, 21] 4 (Row I3 (some ⟨b80, 0, none⟩) 8 8 [1, 1, 2, 3, 5, 8, 13, 21]) (fun _ _ h => h.rd) ko2) V.b24  rfl (.cons (by repeat first | exact .head | apply Rem.tail) .nil) rfl ?_
  rintro _ _ ⟨bm, o2, rfl, hg2, rfl⟩
  have hv2 := kv2 hg2
  have hl2 : o2.length = 8 := hg2.len
  refine o_val (v_move rfl) rfl ?_
  refine o_val (v_extract rfl rfl) rfl ?_
  refine o_val (v_extract rfl rfl) rfl ?_
  refine o_val (v_assign rfl) rfl ?_
  refine o_val (v_assign rfl) rfl ?_
  refine o_nil ?_
  refine thn_n ?_
  refine w_seq ?_
  refine w_region ?_
  refine r_build (I3) [1, 1, 1] V.sl22 V.z3 rfl rfl rfl rfl rfl rfl ?_
  intro b85
  refine o_call (h_len_no (some ⟨b85, 0, none⟩) 3 [1, 1, 1] 1 (Row I3 (some ⟨b85, 0, none⟩) 3 3 [1, 1, 1]) (fun _ _ h => h.rd) ko3) V.b24  rfl (.cons (by repeat first | exact .head | apply Rem.tail) .nil) rfl ?_
  rintro _ _ ⟨rfl, rfl⟩
  refine o_val (v_move rfl) rfl ?_
  refine o_val (v_extract rfl rfl) rfl ?_
  refine o_val (v_extract rfl rfl) rfl ?_
  refine o_val (v_assign rfl) rfl ?_
  refine o_val (v_assign rfl) rfl ?_
  refine o_nil ?_
  refine thn_n ?_
  refine w_seq ?_
  have hgo1 : I3.g o1 1 = o1.getD 1 0 := gE 1 (by decide)
  have hgo2 : I3.g o2 0 = o2.getD 0 0 := gE 0 (by decide)
  refine w_region ?_
  refine o_val (v_move rfl) rfl ?_
  refine o_val (v_T (v_eql rfl rfl) rfl) rfl ?_
  refine o_val (v_move rfl) rfl ?_
  refine o_want rfl ?_
  refine o_val (v_move rfl) rfl ?_
  refine o_want rfl ?_
  refine o_val (v_T (v_eql rfl rfl) rfl) rfl ?_
  refine o_val (v_pickT rfl rfl) rfl ?_
  refine o_val (v_move rfl) rfl ?_
  refine o_want rfl ?_
  refine o_val (v_move rfl) rfl ?_
  refine o_want rfl ?_
  refine o_val (v_T (v_eql rfl rfl) rfl) rfl ?_
  refine o_val (v_pickT rfl rfl) rfl ?_
  refine o_val (v_move rfl) rfl ?_
  refine o_want rfl ?_
  refine o_val (v_move rfl) rfl ?_
  refine o_want rfl ?_
  refine o_val (v_T (v_eql rfl rfl) rfl) rfl ?_
  refine o_val (v_pickT rfl rfl) rfl ?_
  refine o_val (v_move rfl) rfl ?_
  refine o_want rfl ?_
  refine o_val (v_move rfl) rfl ?_
  refine o_val (v_pickT rfl rfl) rfl ?_
  refine o_val (v_move rfl) rfl ?_
  refine o_want rfl ?_
  refine o_val (v_load V.s3 rfl (by repeat first | exact .head _ | apply List.Mem.tail) rfl) rfl ?_
  refine o_want rfl ?_
  refine o_val (v_T (v_eql rfl rfl) rfl) rfl ?_
  refine o_val (v_pickT rfl rfl) rfl ?_
  refine o_val (v_move rfl) rfl ?_
  refine o_want rfl ?_
  refine o_val (v_move rfl) rfl ?_
  refine o_want rfl ?_
  refine o_val (v_to (v := .bool true) (v_not rfl) rfl) rfl ?_
  refine o_val (v_pickT rfl rfl) rfl ?_
  refine o_val (v_move rfl) rfl ?_
  refine o_want rfl ?_
  refine o_val (v_move rfl) rfl ?_
  refine o_want rfl ?_
  refine o_val (v_to (v := .bool true) (v_not rfl) rfl) rfl ?_
  refine o_val (v_pickT rfl rfl) rfl ?_
  refine o_val (v_move rfl) rfl ?_
  refine o_want rfl ?_
  refine o_val (v_move rfl) rfl ?_
  refine o_val (v_pickT rfl rfl) rfl ?_
  refine o_val (v_move rfl) rfl ?_
  refine o_want rfl ?_
  refine o_val (v_move rfl) rfl ?_
  refine o_want rfl ?_
  refine o_val (v_len (ty' := 0) Try.underlying22 rfl) rfl ?_
  refine o_want rfl ?_
  refine o_val (v_T (v_eql rfl rfl) rfl) rfl ?_
  refine o_val (v_pickT rfl rfl) rfl ?_
  refine o_val (v_move rfl) rfl ?_
  refine o_want rfl ?_
  refine o_val (v_move rfl) rfl ?_
  refine o_want rfl ?_
  refine o_val (r_index (c := (I3)) V.sl22 rfl rfl (own (by repeat first | exact .head _ | apply List.Mem.tail)) (by first | omega | (simp only [List.length_cons, List.length_nil]; omega)) (by first | omega | (simp only [List.length_cons, List.length_nil]; omega))) rfl ?_
  refine o_want rfl ?_
  refine o_val (r_load (c := (I3)) V.s3 rfl (own (by repeat first | exact .head _ | apply List.Mem.tail)) (by first | omega | (simp only [List.length_cons, List.length_nil]; omega)) (by first | omega | (simp only [List.length_cons, List.length_nil]; omega)) rfl rfl) rfl ?_
  refine o_want rfl ?_
  refine o_val (v_T (v_eql rfl rfl) (by omega)) rfl ?_
  refine o_val (v_pickT rfl rfl) rfl ?_
  refine o_val (v_move rfl) rfl ?_
  refine o_want rfl ?_
  refine o_val (v_move rfl) rfl ?_
  refine o_val (v_pickT rfl rfl) rfl ?_
  refine o_val (v_move rfl) rfl ?_
  refine o_want rfl ?_
  refine o_val (v_move rfl) rfl ?_
  refine o_want rfl ?_
  refine o_val (v_len (ty' := 0) Try.underlying22 rfl) rfl ?_
  refine o_want rfl ?_
  refine o_val (v_T (v_eql rfl rfl) rfl) rfl ?_
  refine o_val (v_pickT rfl rfl) rfl ?_
  refine o_val (v_move rfl) rfl ?_
  refine o_want rfl ?_
  refine o_val (v_move rfl) rfl ?_
  refine o_want rfl ?_
  refine o_val (r_index (c := (I3)) V.sl22 rfl rfl (own (by repeat first | exact .head _ | apply List.Mem.tail)) (by first | omega | (simp only [List.length_cons, List.length_nil]; omega)) (by first | omega | (simp only [List.length_cons, List.length_nil]; omega))) rfl ?_
  refine o_want rfl ?_
  refine o_val (r_load (c := (I3)) V.s3 rfl (own (by repeat first | exact .head _ | apply List.Mem.tail)) (by first | omega | (simp only [List.length_cons, List.length_nil]; omega)) (by first | omega | (simp only [List.length_cons, List.length_nil]; omega)) rfl rfl) rfl ?_
  refine o_want rfl ?_
  refine o_val (v_T (v_geq rfl rfl) (by omega)) rfl ?_
  refine o_val (v_pickT rfl rfl) rfl ?_
  refine o_val (v_move rfl) rfl ?_
  refine o_want rfl ?_
  refine o_val (v_move rfl) rfl ?_
  refine o_want rfl ?_
  refine o_val (r_index (c := (I3)) V.sl22 rfl rfl (own (by repeat first | exact .head _ | apply List.Mem.tail)) (by first | omega | (simp only [List.length_cons, List.length_nil]; omega)) (by first | omega | (simp only [List.length_cons, List.length_nil]; omega))) rfl ?_
  refine o_want rfl ?_
  refine o_val (r_load (c := (I3)) V.s3 rfl (own (by repeat first | exact .head _ | apply List.Mem.tail)) (by first | omega | (simp only [List.length_cons, List.length_nil]; omega)) (by first | omega | (simp only [List.length_cons, List.length_nil]; omega)) rfl rfl) rfl ?_
  refine o_want rfl ?_
  refine o_val (v_T (v_leq rfl rfl) (by omega)) rfl ?_
  refine o_val (v_pickT rfl rfl) rfl ?_
  refine o_val (v_move rfl) rfl ?_
  refine o_want rfl ?_
  refine o_val (v_move rfl) rfl ?_
  refine o_want rfl ?_
  refine o_val (v_to (v := .bool true) (v_not rfl) rfl) rfl ?_
  refine o_val (v_pickT rfl rfl) rfl ?_
  refine o_val (v_assign rfl) rfl ?_
  refine o_nil ?_
  refine thn_n ?_
  refine w_ret ?_
  exact ret_ok (G := []) (res1 rfl) ⟨rfl, rfl⟩ (sub .nil (by repeat first | exact .refl | apply Drop.skip))
end Go.Proofs.Ytmclopghpnndnaa

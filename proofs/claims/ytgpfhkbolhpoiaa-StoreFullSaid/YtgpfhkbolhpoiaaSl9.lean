/-
  Sl, part 9: loads out of rows of the walk's own; rows of integers, of bools; small steps.
-/
import Derived.Test.YtgpfhkbolhpoiaaSl8
namespace Go.Sl
open Go.RowKit (Below)
set_option linter.unusedVariables false
set_option linter.unusedSimpArgs false

section
variable {C : Ctx} {Q : QT} {E : Env} {L L' F : List HProp} {ops : Array Oper} {rest : List Oper} {d : Nat} {ty : TypeId} {pos : String} {aft : Array Edge} {op : Op} {v : Value}
theorem v_loadS {x : Operand} {t b o q n cap T sz : Nat} {vs : List Value} (i : Nat) (hs : scalarB C.P t = true) (hx : evalE E x = some (.pointer (some ⟨b, q, none⟩))) (hm : Sl (some ⟨b, o, none⟩) n cap T sz vs ∈ L) (hq : q = o + i) (hv : vs[i]? = some v) : OpV C (.load t x) ty E L v L :=
  v_loadR i hs hx hm (fun h hh => Sl.rd hh) hq hv
theorem v_loadSA {x : Operand} {t b o q n cap T sz m : Nat} {vs us : List Value} (i : Nat) (hs : aggB C.P t = some m) (hx : evalE E x = some (.pointer (some ⟨b, q, none⟩))) (hm : Sl (some ⟨b, o, none⟩) n cap T sz vs ∈ L) (hq : q = o + i) (hl : us.length = m) (hv : (vs.drop i).take m = us) : OpV C (.load t x) ty E L (.agg us.toArray) L :=
  v_loadRA i hs hx hm (fun h hh => Sl.rd hh) hq hl hv
theorem st_sub {o : Oper} {R : Value → List HProp → Prop} (h : Sub L L') (k : Step C ops o E L' R) : Step C ops o E L R := fun a w K Q ha hi hK => k a w K Q ha (h _ _ hi) hK
/-- 'clear' over the room behind a slice's elements. -/
theorem v_clear {x : Operand} {t e sz by_ n k cap m2 : Nat} {p : Option Addr} {vs zs : List Value} (ht : sliceB C.P t = some (e, sz, by_)) (hz : zeroB C.P e = some zs) (hz1 : zs.all Value.oneCell' = true) (hx : evalE E x = some (.slice (subP p n cap sz) k m2)) (hm : Sl p n cap e sz vs ∈ L) (hk : n + k ≤ cap) :
    OpV C (.call ⟨.builtin .clear, [x].toArray, #[t]⟩) ty E L (.tuple #[]) L := by
  intro d pos aft g a w ha hi
  obtain ⟨ht1, i, hi2, rfl, rfl⟩ := slice_spec ht
  obtain ⟨i', z, hz2, hz3, hz4, hz5⟩ := zero_spec hz
  rw [hi2] at hz2
  cases hz2
  obtain ⟨consts, hrun⟩ := run_resolve_builtin (C := C) (ty := ty) (pos := pos) (aft := aft) (b := .clear) (xs := [x]) (tys := #[t]) (vs := [.slice (subP p n cap i.size) k m2]) (a := a) (by simp [ha.eval hx]) d g w
  rw [hrun]
  obtain ⟨X, Y, hXY⟩ := List.append_of_mem hm
  have hi0 : Inv C.w0 (Sl p n cap e i.size vs :: (X ++ Y)) w := hi.perm (by rw [hXY]; exact List.perm_middle)
  have hback : ∀ w', Inv C.w0 (Sl p n cap e i.size vs :: (X ++ Y)) w' → Inv C.w0 L w' := fun w' h => h.perm (by rw [hXY]; exact List.perm_middle.symm)
  by_cases hk0 : k = 0
  · subst hk0
    refine ⟨w, .inl ?_, hi⟩
    cases hp : subP p n cap i.size <;> simp [builtin, Builtin.clear_, run_underlying ht1]
  · obtain ⟨zz, hzz, hi1⟩ := hi0.opn (Sl.open_ C.w0)
    cases zz with
    | none => obtain ⟨rfl, rfl, rfl, rfl⟩ := hzz; omega
    | some zz =>
      obtain ⟨b, o, pre, post⟩ := zz
      obtain ⟨rfl, e1, e2, e3, e4⟩ := hzz
      have hsub := subP_some b o n cap i.size (by omega)
      have hks : k * i.size ≤ (cap - n) * i.size := Nat.mul_le_mul_right _ (by omega)
      have hzl : (Builtin.zeroCells z.cells k).toList.length = k * i.size := by simp [size_zeroCells, hz4, hz5]
      obtain ⟨w', hr, hi'⟩ := run_storeCells (C := C) (Builtin.zeroCells z.cells k).toList (o + n * i.size) 0 _ _ w (fun u hu => by
        simp only [Builtin.zeroCells, Array.toList_map, List.mem_map, Array.toList_range, List.mem_range] at hu
        obtain ⟨j, hj, rfl⟩ := hu
        have hpos : 0 < z.cells.size := by
          rcases Nat.eq_zero_or_pos z.cells.size with h | h
          · rw [h] at hj; simp at hj
          · exact h
        have hlt : j % z.cells.size < z.cells.size := Nat.mod_lt _ hpos
        simp only [hlt, getElem!_pos]
        have hmem : z.cells[j % z.cells.size] ∈ zs := by
          have : z.cells.toList = zs := by rw [hz4]
          rw [← this]
          exact Array.mem_toList_iff.2 (Array.getElem_mem hlt)
        simpa using List.all_eq_true.1 hz1 _ hmem) (by simp only [List.length_append, e1, e2, hzl]; omega) hi1
      refine ⟨w', .inl ?_, ?_⟩
      · rw [hsub]
        obtain ⟨k, rfl⟩ : ∃ k', k = k' + 1 := ⟨k - 1, by omega⟩
        simp [builtin, Builtin.clear_, run_underlying ht1, zeroValue, typeInfo, hi2, hz3, hr]
      · refine hback _ ?_
        refine Inv.cls (B := [Cel b e (pre ++ vs ++ ((Builtin.zeroCells z.cells k).toList ++ post.drop (k * i.size)))]) (fun h hc => Sl.mk hc e1 e2 ?_ e4) ?_
        · simp only [List.length_append, hzl, List.length_drop]; omega
        · have h5 : (pre ++ vs ++ post).take (o + n * i.size + 0) = pre ++ vs := by rw [Nat.add_zero]; exact List.take_left' (by simp [e1, e2])
          have h6 : (pre ++ vs ++ post).drop (o + n * i.size + 0 + (Builtin.zeroCells z.cells k).toList.length) = post.drop (k * i.size) := by
            rw [Nat.add_zero, hzl, show o + n * i.size + k * i.size = (pre ++ vs).length + k * i.size by simp [e1, e2], ← List.drop_drop, List.drop_left]
          rw [h5, h6] at hi'
          simpa [List.append_assoc] using hi'
/-- A slice with an element leads somewhere. -/
theorem w_some {c : Code} {p : Option Addr} {n cap T sz : Nat} {vs : List Value} (hm : Sl p n cap T sz vs ∈ L) (hn : 0 < n) (k : ∀ b o, p = some ⟨b, o, none⟩ → Wp C c Q E L) : Wp C c Q E L :=
  w_fact (p := ∃ b o, p = some ⟨b, o, none⟩) (fun w hi => by
    obtain ⟨_, _, h⟩ := sl_facts hi hm
    rcases h with h | h
    · omega
    · exact h) (fun ⟨b, o, e⟩ => k b o e)
theorem o_some {p : Option Addr} {n cap T sz : Nat} {vs : List Value} (hm : Sl p n cap T sz vs ∈ L) (hn : 0 < n) (k : ∀ b o, p = some ⟨b, o, none⟩ → Ops C ops rest Q E L) : Ops C ops rest Q E L :=
  o_fact (p := ∃ b o, p = some ⟨b, o, none⟩) (fun w hi => by
    obtain ⟨_, _, h⟩ := sl_facts hi hm
    rcases h with h | h
    · omega
    · exact h) (fun ⟨b, o, e⟩ => k b o e)
theorem o_someR {R : HProp} {p : Option Addr} {n sz : Nat} {vs : List Value} (hm : R ∈ L) (hR : ∀ h, R C.w0 h → Rd p n sz vs C.w0 h) (hn : 0 < n) (k : ∀ b o, p = some ⟨b, o, none⟩ → Ops C ops rest Q E L) : Ops C ops rest Q E L :=
  o_fact (p := ∃ b o, p = some ⟨b, o, none⟩) (fun w hi => by
    obtain ⟨_, h⟩ := hi.rd hm hR
    rcases h with h | ⟨b, o, h, _⟩
    · omega
    · exact ⟨b, o, h⟩) (fun ⟨b, o, e⟩ => k b o e)
theorem w_someR {c : Code} {R : HProp} {p : Option Addr} {n sz : Nat} {vs : List Value} (hm : R ∈ L) (hR : ∀ h, R C.w0 h → Rd p n sz vs C.w0 h) (hn : 0 < n) (k : ∀ b o, p = some ⟨b, o, none⟩ → Wp C c Q E L) : Wp C c Q E L :=
  w_fact (p := ∃ b o, p = some ⟨b, o, none⟩) (fun w hi => by
    obtain ⟨_, h⟩ := hi.rd hm hR
    rcases h with h | ⟨b, o, h, _⟩
    · omega
    · exact ⟨b, o, h⟩) (fun ⟨b, o, e⟩ => k b o e)
end
/-- One assertion for another, wherever it stands. -/
theorem subR {L F : List HProp} {A B : HProp} (hr : Rem L A F) (hA : ∀ w0 h, A w0 h → B w0 h) : Sub L (B :: F) := fun w0 w hi => (hi.perm hr.perm).imp (fun h hh => hA w0 h hh)
theorem fold' {L G M F : List HProp} {A : HProp} (hr : Rems L G M) (hd : Drop M F) (hA : ∀ w0 h, sats w0 G h → A w0 h) : Sub L (A :: F) := (sub hr hd).trans (fold hA)
theorem sats_cons {w0 : World} {A : HProp} {L : List HProp} {h : Hp} : sats w0 (A :: L) h = ∃ h1 h2, Hp.disj h1 h2 ∧ Hp.le h1 h ∧ Hp.le h2 h ∧ A w0 h1 ∧ sats w0 L h2 := rfl

/-! ### Rows of integers -/
def ints (k : IntKind) (xs : List Int) : List Value := xs.map (Value.int k)
theorem ints_len (k : IntKind) (xs : List Int) : (ints k xs).length = xs.length * 1 := by simp [ints]
theorem ints_get {k : IntKind} {xs : List Int} {i : Nat} (h : i < xs.length) : (ints k xs)[i]? = some (.int k xs[i]) := by simp [ints, h]
theorem ints_getD {k : IntKind} {xs : List Int} {i : Nat} (h : i < xs.length) : (ints k xs)[i]? = some (.int k (xs.getD i 0)) := by simp [ints, h]
theorem ints_set {k : IntKind} {xs : List Int} {i : Nat} {n : Int} : (ints k xs).set i (.int k n) = ints k (xs.set i n) := by simp [ints]
theorem ints_one (k : IntKind) (xs : List Int) : (ints k xs).all Value.oneCell' = true := by
  simp [ints, List.all_eq_true, Value.oneCell']
theorem ints_append (k : IntKind) (xs ys : List Int) : ints k xs ++ ints k ys = ints k (xs ++ ys) := by simp [ints]
theorem ints_take (k : IntKind) (xs : List Int) (n : Nat) : (ints k xs).take n = ints k (xs.take n) := by simp [ints]
theorem ints_drop (k : IntKind) (xs : List Int) (n : Nat) : (ints k xs).drop n = ints k (xs.drop n) := by simp [ints]
theorem ints_zero (k : IntKind) (n : Nat) : (List.replicate n [Value.int k 0]).flatten = ints k (List.replicate n 0) := by
  induction n with
  | zero => rfl
  | succ n ih => simp only [List.replicate_succ, List.flatten_cons, ih]; simp [ints]
def bools (xs : List Bool) : List Value := xs.map Value.bool
theorem bools_len (xs : List Bool) : (bools xs).length = xs.length * 1 := by simp [bools]
theorem bools_get {xs : List Bool} {i : Nat} (h : i < xs.length) : (bools xs)[i]? = some (.bool xs[i]) := by simp [bools, h]
theorem bools_set {xs : List Bool} {i : Nat} {b : Bool} : (bools xs).set i (.bool b) = bools (xs.set i b) := by simp [bools]
theorem bools_zero (n : Nat) : (List.replicate n [Value.bool false]).flatten = bools (List.replicate n false) := by
  induction n with
  | zero => rfl
  | succ n ih => simp only [List.replicate_succ, List.flatten_cons, ih]; simp [bools]
theorem bools_one (xs : List Bool) : (bools xs).all Value.oneCell' = true := by simp [bools, List.all_eq_true, Value.oneCell']
end Go.Sl

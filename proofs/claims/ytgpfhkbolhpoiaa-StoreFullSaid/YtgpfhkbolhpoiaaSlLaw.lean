/-
  Sl and the shells of laws: the arguments of a law as rows that are there to be read.
-/
import Derived.Test.YtgpfhkbolhpoiaaSl12
namespace Go.Sl
open Go.RowKit (Below)
set_option linter.unusedVariables false

/-- A slice of integers that came in, as a row that can be read. -/
theorem isRow_open {k : IntKind} {w : World} {a : Option Addr} {len cap : Nat} {zs : List Int}
    (h : (a = none ∧ len = 0 ∧ cap = 0 ∧ zs = []) ∨ ∃ x : Addr, a = some x ∧ len ≤ cap ∧ cap ≤ maxLen ∧ zs.length = cap ∧ (∀ i, i < zs.length → w.cell? (x.add i) = some (.int k (zs.getD i 0))) ∧ ∀ n ∈ zs, (Lit.int k n).wf = true) :
    ∃ l : List Int, l.length = len ∧ (∀ x ∈ l, k.min ≤ x ∧ x ≤ k.max) ∧ len ≤ 9223372036854775807 ∧ ∀ T, RdR (ecI T k) a len l w (fun _ => none) := by
  rcases h with ⟨rfl, rfl, rfl, rfl⟩ | ⟨x, rfl, h1, h2, h3, h4, h5⟩
  · exact ⟨[], rfl, by simp, by omega, fun T => ⟨rfl, by simp, .inl rfl⟩⟩
  · have hl : (zs.take len).length = len := by simp; omega
    refine ⟨zs.take len, hl, fun y hy => ?_, by unfold maxLen at h2; omega, fun T => ⟨hl, by rw [flat_len, hl], ?_⟩⟩
    · have := h5 y (List.mem_of_mem_take hy)
      simpa [Lit.wf] using this
    · by_cases h0 : len = 0
      · exact .inl h0
      right
      obtain ⟨b, o, s⟩ := x
      have hc0 := h4 0 (by omega)
      have hs : s = none := by
        cases s with
        | none => rfl
        | some q =>
          exfalso
          simp [Addr.add, World.cell?] at hc0
          split at hc0 <;> simp at hc0
      subst hs
      refine ⟨b, o, rfl, fun i v hv => ?_⟩
      have hi := (List.getElem?_eq_some_iff.1 hv).1
      rw [flat_len, hl] at hi
      have hi : i < len := by simpa using hi
      have hv2 := flat_get (ecI T k) (zs.take len) i 0 (by omega) (by exact Nat.zero_lt_one)
      simp only [Nat.mul_one, Nat.add_zero] at hv2
      rw [hv2] at hv
      have hc := h4 i (by omega)
      rw [Addr.add_mk] at hc
      have hlt := World.block_lt_of_cell? _ _ hc
      simp only [cellH]
      rw [if_pos hlt, hc]
      simp at hv
      simp [show i < zs.length by omega, hv]
/-- The start of a walk: the rows that came in. -/
theorem start1 {w : World} {A : HProp} (h : A w (fun _ => none)) : Inv w [A] w := (Inv.start w).add0 h
theorem start2 {w : World} {A B : HProp} (h : A w (fun _ => none)) (h2 : B w (fun _ => none)) : Inv w [A, B] w := (start1 h2).add0 h
theorem start3 {w : World} {A B D : HProp} (h : A w (fun _ => none)) (h2 : B w (fun _ => none)) (h3 : D w (fun _ => none)) : Inv w [A, B, D] w := (start2 h2 h3).add0 h
/-- A contract of a law, used. -/
theorem Ctr.law {P : Program} {f : FuncId} {args : List Value} {Pre : List HProp} {R : Value → List HProp → Prop} {w : World} {v : Value} (h : Ctr P f args Pre (Ret R)) (hi : Inv w Pre w) (hv : ∀ v' G, R v' G → v' = v) :
    Calls P f args.toArray w fun e w' => e = .returned v ∧ Below w.heap.size w w' :=
  (h w [] w (by rw [List.append_nil]; exact hi)).mono fun e w' ⟨G, h1, v', h2, h3⟩ => ⟨by rw [h2, hv v' G h3], h1.below⟩
theorem ints_flat (T : TypeId) (k : IntKind) : ∀ l : List Int, l.flatMap (ecI T k).e = ints k l
  | [] => rfl
  | x :: l => by
    have ih := ints_flat T k l
    simp only [List.flatMap_cons, ih]
    rfl
/-- The older way of saying rows. -/
theorem RdR.rd {T : TypeId} {k : IntKind} {p : Option Addr} {n : Nat} {l : List Int} {w0 : World} {h : Hp} (hr : RdR (ecI T k) p n l w0 h) : Rd p n 1 (ints k l) w0 h := by
  have e : l.flatMap (ecI T k).e = ints k l := by
    exact ints_flat T k l
  have := hr.2
  rw [e] at this
  exact this
end Go.Sl

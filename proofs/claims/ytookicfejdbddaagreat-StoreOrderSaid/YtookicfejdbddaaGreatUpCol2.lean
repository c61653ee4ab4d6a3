/- Walks of functions that the law reaches, and what they lean on; no conditions. -/
import Derived.Test.YtookicfejdbddaaGreatUpCol
import Derived.Test.YtookicfejdbddaaGreatM22
import Derived.Maps.OwnIn
set_option linter.unusedVariables false
set_option linter.unusedSimpArgs false
set_option linter.unnecessarySimpa false
set_option maxRecDepth 100000
namespace Go.Proofs.YtookicfejdbddaaGreat
open Go.RowKit
attribute [local go_sem] Oper.semAt_some
set_option maxHeartbeats 4000000 in
theorem size1 (n : Nat) (w : World) : CallsIn Fence.wide n Tryz.prog 74 #[.int .i64 1, .int .i64 1] w fun e w' => e = .returned (.int .i64 0) ∧ w' = w := by
  refine callsIn_of_wp Tryz.func74 rfl trivial ?_ rfl
  simp only [Tryz.ntmps74, List.size_toArray, List.length_cons, List.length_nil, Nat.reduceAdd, Nat.reduceSub, Array.replicate_succ, Array.replicate_zero, List.push_toArray, List.append_toArray, List.nil_append, List.cons_append]
  gi_wp2
  go_ret
  exact ⟨rfl, rfl⟩
set_option maxHeartbeats 4000000 in
theorem may1 (n : Nat) (p : Option Addr) (cap : Nat) (w : World) : CallsIn Fence.wide (n + 1) Tryz.prog 246 #[.agg #[.int .i64 1, .int .i64 1, .slice p 4 cap]] w fun e w' => e = .returned (.bool true) ∧ w' = w.alloc (.cells #[.int .i64 1, .int .i64 1, .slice p 4 cap] 46) := by
  refine callsIn_of_wp Tryz.func246 rfl trivial ?_ rfl
  simp only [Tryz.ntmps246, List.size_toArray, List.length_cons, List.length_nil, Nat.reduceAdd, Nat.reduceSub, Array.replicate_succ, Array.replicate_zero, List.push_toArray, List.append_toArray, List.nil_append, List.cons_append]
  gi_wp2
  refine ⟨trivial, (size1 _ _).mono ?_⟩
  rintro e w' ⟨rfl, rfl⟩
  gi_wp2
  go_ret
  exact ⟨rfl, rfl⟩
set_option maxHeartbeats 8000000 in
theorem chunk0 (n b off cap : Nat) (w : World) : CallsIn Fence.wide n Tryz.prog 274 #[.slice (some ⟨b, off, none⟩) 4 cap, .int .i64 4] w fun e w' => e = .returned (.func (.func 299) #[] #[.pointer (some ⟨w.heap.size, 0, none⟩), .pointer (some ⟨w.heap.size + 1, 0, none⟩)]) ∧
    w' = (w.alloc (.cells #[.slice (some ⟨b, off, none⟩) 4 cap] 44)).alloc (.cells #[.int .i64 4] 3) := by
  refine callsIn_of_wp Tryz.func274 rfl trivial ?_ rfl
  simp only [Tryz.ntmps274, List.size_toArray, List.length_cons, List.length_nil, Nat.reduceAdd, Nat.reduceSub, Array.replicate_succ, Array.replicate_zero, List.push_toArray, List.append_toArray, List.nil_append, List.cons_append]
  gi_wp2
  go_ret
  exact ⟨rfl, rfl⟩
theorem alloc_at (w : World) (o : Obj) (k : Nat) : (w.alloc o).heap[k]? = if k = w.heap.size then some o else w.heap[k]? := by
  show (w.heap.push o)[k]? = _
  rw [Array.getElem?_push]
theorem alloc_new (w : World) (o : Obj) (k : Nat) (h : k = w.heap.size) : (w.alloc o).heap[k]? = some o := by rw [alloc_at, if_pos h]
theorem alloc_old (w : World) (o : Obj) (k : Nat) (h : k < w.heap.size) : (w.alloc o).heap[k]? = w.heap[k]? := by rw [alloc_at, if_neg (by omega)]
theorem cell_box {w : World} {b : Nat} {v : Value} {t : TypeId} (h : w.heap[b]? = some (.cells #[v] t (0, 0))) : w.cell? ⟨b, 0, none⟩ = some v ∧ w.frozen? ⟨b, 0, none⟩ = false := by
  constructor <;> simp [World.cell?, World.frozen?, h]
theorem seq1 (n b off cap Bs Bn : Nat) (w : World) (hcap : 4 ≤ cap) (hs : w.cell? ⟨Bs, 0, none⟩ = some (.slice (some ⟨b, off, none⟩) 4 cap)) (hn : w.cell? ⟨Bn, 0, none⟩ = some (.int .i64 4)) (h1 : Bs < w.heap.size) (h2 : Bn < w.heap.size) :
    SeqStopsK Fence.wide (n + 2) Tryz.prog 299 #[.pointer (some ⟨Bs, 0, none⟩), .pointer (some ⟨Bn, 0, none⟩)] (fun _ : Unit => #[.slice (some ⟨b, off, none⟩) 4 4]) (fun A C => C.heap[Bs]? = A.heap[Bs]? ∧ C.heap[Bn]? = A.heap[Bn]?) (fun xs => xs = [()]) (fun _ => True) 1 w := fun l J Jx W hW hJ _ hY h0 => by
  have hd : J [] W.drew := hJ [] W W.drew none h0 ⟨rfl, rfl, rfl, Nat.le_refl _, fun _ _ _ => rfl⟩ (fun r e => by cases e)
  refine (chunk1 (n + 1) l b off cap Bs Bn W (J [()]) (Jx [()]) hcap ?_ ?_ ?_).mono ?_
  · obtain ⟨fn, tmps, assign, body, hy, hR⟩ := hY [] () W.drew hd (by decide)
    exact ⟨fn, tmps, assign, body, hy, hR⟩
  · exact (hW.cell (p := ⟨Bs, 0, none⟩) h1).trans hs
  · exact (hW.cell (p := ⟨Bn, 0, none⟩) h2).trans hn
  · rintro e W' ⟨he, h | h⟩
    · exact ⟨he, .inl ⟨_, rfl, h⟩⟩
    · exact ⟨he, .inr ⟨_, trivial, h⟩⟩
theorem mu1 (r : Nat) (x0 x1 x2 x3 : Int) (W : World) (h : W.heap[r]? = some (.map #[] 0)) :
    (Instr.mapUpdate 347 (.map (some r)) (.agg #[.int .u16 x0, .int .u16 x1, .int .u16 x2, .int .u16 x3]) (.agg #[])).run Tryz.prog W = .ok () (W.putObj r (.map #[⟨.agg #[.int .u16 x0, .int .u16 x1, .int .u16 x2, .int .u16 x3], .agg #[], 0⟩] 1)) := by
  have hy : Cr.KyT Tryz.prog 182 (.nums .u16 [x0, x1, x2, x3]) := ⟨4, 49, by kernel_rfl, by kernel_rfl, by kernel_rfl, rfl⟩
  have hck : (Instr.checkKey false 10000 182 (.agg #[.int .u16 x0, .int .u16 x1, .int .u16 x2, .int .u16 x3])).run Tryz.prog W = .ok () W := Cr.check_ky hy false 9998 W
  have hfk : (Instr.findKey 182 (.agg #[.int .u16 x0, .int .u16 x1, .int .u16 x2, .int .u16 x3]) []).run Tryz.prog W = .ok none W := by
    obtain ⟨R, r1, r2⟩ := Cr.findKey_ok (ρ := fun _ => none) hy W (cs := []) (vs := []) (r := none) (by unfold Cr.findL; rfl) rfl
    cases R with
    | none => exact r2
    | some _ => exact r1.elim
  have hget : (getObj r).run Tryz.prog W = .ok (.map #[] 0) W := by simp [getObj, Sem.run, h]
  have hset : ∀ o, (setObj r o).run Tryz.prog W = .ok () (W.putObj r o) := fun o => by simp [setObj, Sem.run, h, World.putObj]
  simp [Instr.mapUpdate, run_underlying Tryz.underlying347, hget, hset, hck, hfk]
set_option maxHeartbeats 8000000 in
theorem colours1 (n b off cap m : Nat) (x0 x1 x2 x3 : Int) (w : World) (hcap : 4 ≤ cap) (c0 : w.cell? ⟨b, off, none⟩ = some (.int .u16 x0)) (c1 : w.cell? ⟨b, off + 1, none⟩ = some (.int .u16 x1)) (c2 : w.cell? ⟨b, off + 2, none⟩ = some (.int .u16 x2)) (c3 : w.cell? ⟨b, off + 3, none⟩ = some (.int .u16 x3)) :
    CallsIn Fence.wide (n + 5) Tryz.prog 249 #[.agg #[.int .i64 1, .int .i64 1, .slice (some ⟨b, off, none⟩) 4 cap], .int .i64 ((m + 1 : Nat) : Int)] w fun e w' => e = .returned (.tuple #[.int .i64 1, .bool true]) ∧ Below w.heap.size w w' := by
  have hmm := @run_makeMap Tryz.prog
  refine callsIn_of_wp_marks Tryz.func249 rfl trivial ?_ rfl
  simp only [Tryz.ntmps249, List.size_toArray, List.length_cons, List.length_nil, Nat.reduceAdd, Nat.reduceSub, Array.replicate_succ, Array.replicate_zero, List.push_toArray, List.append_toArray, List.nil_append, List.cons_append]
  gi_wp2
  refine ⟨trivial, (may1 (n + 3) _ _ _).mono ?_⟩
  rintro e w' ⟨rfl, rfl⟩
  gi_wp2
  refine ⟨trivial, (chunk0 _ _ _ _ _).mono ?_⟩
  rintro e w' ⟨rfl, rfl⟩
  gi_wp2
  have key : ∃ Wr : World, Wr = (((((((((w.alloc (.cells #[.int .i64 1, .int .i64 1, .slice (some ⟨b, off, none⟩) 4 cap] 46)).alloc (.cells #[.int .i64 (↑m + 1)] 3)).alloc (.cells #[.int .i64 0] 3)).alloc (.cells #[.bool false] 4)).alloc
    (.cells #[.int .i64 1, .int .i64 1, .slice (some ⟨b, off, none⟩) 4 cap] 46)).alloc (.map #[] 0)).alloc (.cells #[.map (some (w.heap.size + 1 + 1 + 1 + 1 + 1))] 347)).alloc (.cells #[.slice (some ⟨b, off, none⟩) 4 cap] 44)).alloc (.cells #[.int .i64 4] 3)) := ⟨_, rfl⟩
  obtain ⟨Wr, hWr⟩ := key
  rw [← hWr]
  have hsz : Wr.heap.size = w.heap.size + 9 := by rw [hWr]; simp only [World.size_alloc]
  have f1 : Wr.heap[w.heap.size + 1]? = some (.cells #[.int .i64 (↑m + 1)] 3 (0, 0)) := by
    rw [hWr]
    repeat rw [alloc_old _ _ _ (by simp only [World.size_alloc]; omega)]
    exact alloc_new _ _ _ (by simp only [World.size_alloc])
  have f2 : Wr.heap[w.heap.size + 1 + 1]? = some (.cells #[.int .i64 0] 3 (0, 0)) := by
    rw [hWr]
    repeat rw [alloc_old _ _ _ (by simp only [World.size_alloc]; omega)]
    exact alloc_new _ _ _ (by simp only [World.size_alloc])
  have f3 : Wr.heap[w.heap.size + 1 + 1 + 1]? = some (.cells #[.bool false] 4 (0, 0)) := by
    rw [hWr]
    repeat rw [alloc_old _ _ _ (by simp only [World.size_alloc]; omega)]
    exact alloc_new _ _ _ (by simp only [World.size_alloc])
  have f5 : Wr.heap[w.heap.size + 1 + 1 + 1 + 1 + 1]? = some (.map #[] 0) := by
    rw [hWr]
    repeat rw [alloc_old _ _ _ (by simp only [World.size_alloc]; omega)]
    exact alloc_new _ _ _ (by simp only [World.size_alloc])
  have f6 : Wr.heap[w.heap.size + 1 + 1 + 1 + 1 + 1 + 1]? = some (.cells #[.map (some (w.heap.size + 1 + 1 + 1 + 1 + 1))] 347 (0, 0)) := by
    rw [hWr]
    repeat rw [alloc_old _ _ _ (by simp only [World.size_alloc]; omega)]
    exact alloc_new _ _ _ (by simp only [World.size_alloc])
  have f7 : Wr.heap[w.heap.size + 1 + 1 + 1 + 1 + 1 + 1 + 1]? = some (.cells #[.slice (some ⟨b, off, none⟩) 4 cap] 44 (0, 0)) := by
    rw [hWr]
    repeat rw [alloc_old _ _ _ (by simp only [World.size_alloc]; omega)]
    exact alloc_new _ _ _ (by simp only [World.size_alloc])
  have f8 : Wr.heap[w.heap.size + 1 + 1 + 1 + 1 + 1 + 1 + 1 + 1]? = some (.cells #[.int .i64 4] 3 (0, 0)) := by
    rw [hWr]
    repeat rw [alloc_old _ _ _ (by simp only [World.size_alloc]; omega)]
    exact alloc_new _ _ _ (by simp only [World.size_alloc])
  have hB : Below w.heap.size w Wr := by
    rw [hWr]
    exact (((((((((Below.refl _ w).alloc (Nat.le_refl _) _).alloc (by simp) _).alloc (by simp; omega) _).alloc (by simp; omega) _).alloc (by simp; omega) _).alloc (by simp; omega) _).alloc (by simp; omega) _).alloc (by simp; omega) _).alloc (by simp; omega) _
  clear hWr
  have q7 := (cell_box f7).1
  have q8 := (cell_box f8).1
  refine wpIn_rangeFunc_ownG rfl (by omega) (gf := 299) (lb := #[.pointer (some ⟨w.heap.size + 1 + 1 + 1 + 1 + 1 + 1 + 1, 0, none⟩), .pointer (some ⟨w.heap.size + 1 + 1 + 1 + 1 + 1 + 1 + 1 + 1, 0, none⟩)]) rfl trivial (fun args w => Go.Sl.run_callFunc (by kernel_rfl) args w)
    (seq1 (n + 2) b off cap _ _ Wr hcap q7 q8 (by omega) (by omega)) (fun h k => ⟨k.1.trans h.1, k.2.trans h.2⟩) (fun W l o o' hl _ _ _ => ⟨World.putObj_heap_other (by omega), World.putObj_heap_other (by omega)⟩) (Below.refl _ _) (fun _ => rfl)
    (fun pre W => Below Wr.heap.size (if pre = [] then Wr else Wr.putObj (w.heap.size + 1 + 1 + 1 + 1 + 1) (.map #[⟨.agg #[.int .u16 x0, .int .u16 x1, .int .u16 x2, .int .u16 x3], .agg #[], 0⟩] 1)) W) (fun _ _ _ => False) ?own (fun _ _ _ _ _ h _ _ => h) (Below.refl _ _)
    (fun _ => { tmps := #[(.agg #[.int .i64 1, .int .i64 1, .slice (some ⟨b, off, none⟩) 4 cap]), (.int .i64 (↑m + 1)), (.pointer (some ⟨w.heap.size, 0, none⟩)), (.pointer (some ⟨w.heap.size + 1, 0, none⟩)), (.pointer (some ⟨w.heap.size + 1 + 1, 0, none⟩)), (.pointer (some ⟨w.heap.size + 1 + 1 + 1, 0, none⟩)), (.pointer (some ⟨w.heap.size + 1 + 1 + 1 + 1 + 1 + 1, 0, none⟩)), (.slice (some ⟨b, off, none⟩) 4 4), (.agg #[.int .i64 1, .int .i64 1, .slice (some ⟨b, off, none⟩) 4 cap]), (.bool true), (.bool false), (.map (some (w.heap.size + 1 + 1 + 1 + 1 + 1))), (.pointer (some ⟨w.heap.size, 2, none⟩)), (.slice (some ⟨b, off, none⟩) 4 cap), (.func (.func 299) #[] #[(.pointer (some ⟨w.heap.size + 1 + 1 + 1 + 1 + 1 + 1 + 1, 0, none⟩)), (.pointer (some ⟨w.heap.size + 1 + 1 + 1 + 1 + 1 + 1 + 1 + 1, 0, none⟩))]), (.slice (some ⟨b, off, none⟩) 4 4), undef, undef, undef, undef, undef, undef, undef, undef, undef, undef, undef], defers := [] }) ?assign ?body ?done ?stop
  case own =>
    intro pre W W' row hs hg hr
    refine hs.grown hg ?_ (fun k e => (hr k e).1)
    have := hs.size
    by_cases e : pre = [] <;> simpa [e] using this
  case assign =>
    intro l x W K hK
    gi_wp2
    exact hK
  case body =>
    rintro l pre x W hB2 hlt
    obtain rfl : pre = [] := List.length_eq_zero_iff.1 (by omega)
    simp only [if_true] at hB2
    have g1 := (hB2.block _ (by omega)).trans f1
    have g5 := (hB2.block _ (by omega)).trans f5
    have g6 := (hB2.block _ (by omega)).trans f6
    have q1 := (cell_box g1).1
    have q6 := (cell_box g6).1
    have hbw : b < w.heap.size := World.block_lt_of_cell? _ _ c0
    have e0 := (hB2.cell (p := ⟨b, off, none⟩) (by simp; omega)).trans ((hB.cell (p := ⟨b, off, none⟩) hbw).trans c0)
    have e1 := (hB2.cell (p := ⟨b, off + 1, none⟩) (by simp; omega)).trans ((hB.cell (p := ⟨b, off + 1, none⟩) hbw).trans c1)
    have e2 := (hB2.cell (p := ⟨b, off + 2, none⟩) (by simp; omega)).trans ((hB.cell (p := ⟨b, off + 2, none⟩) hbw).trans c2)
    have e3 := (hB2.cell (p := ⟨b, off + 3, none⟩) (by simp; omega)).trans ((hB.cell (p := ⟨b, off + 3, none⟩) hbw).trans c3)
    have har : ∀ W, (Instr.arrayAt 182 (.slice (some ⟨b, off, none⟩) 4 4)).run Tryz.prog W = .ok (.pointer (some ⟨b, off, none⟩)) W := fun W => by simp [Instr.arrayAt, run_underlying Tryz.underlying182]
    have hld : (Instr.loadAt 182 (.pointer (some ⟨b, off, none⟩))).run Tryz.prog W.drew = .ok (.agg #[.int .u16 x0, .int .u16 x1, .int .u16 x2, .int .u16 x3]) W.drew := by
      have := run_loadCells_list (P := Tryz.prog) W.drew ⟨b, off, none⟩ [.int .u16 x0, .int .u16 x1, .int .u16 x2, .int .u16 x3] (fun j v hj => by
        rcases j with _ | _ | _ | _ | j
        · cases hj; exact e0
        · cases hj; exact e1
        · cases hj; exact e2
        · cases hj; exact e3
        · cases hj)
      rw [show ([.int .u16 x0, .int .u16 x1, .int .u16 x2, .int .u16 x3] : List Value).length = 4 from rfl] at this
      obtain ⟨k1, k2⟩ := Sl.agg_spec (P := Tryz.prog) (t := 182) (n := 4) (by kernel_rfl) W.drew
      simp [Instr.loadAt, Instr.sureAddr, loadVar, k1, this]
    have hmu := mu1 (w.heap.size + 1 + 1 + 1 + 1 + 1) x0 x1 x2 x3 W.drew g5
    gi_wp2
    gi_region
    all_goals
      have hlt5 : w.heap.size + 1 + 1 + 1 + 1 + 1 < W.drew.heap.size := (Array.getElem?_eq_some_iff.1 (show W.drew.heap[_]? = _ from g5)).1
      have hZ : ∃ W2 : World, W2 = W.drew.putObj (w.heap.size + 1 + 1 + 1 + 1 + 1) (.map #[⟨.agg #[.int .u16 x0, .int .u16 x1, .int .u16 x2, .int .u16 x3], .agg #[], 0⟩] 1) := ⟨_, rfl⟩
      obtain ⟨W2, hW2⟩ := hZ
      rw [← hW2]
      have z5 : W2.heap[w.heap.size + 1 + 1 + 1 + 1 + 1]? = some (.map #[⟨.agg #[.int .u16 x0, .int .u16 x1, .int .u16 x2, .int .u16 x3], .agg #[], 0⟩] 1) := by rw [hW2]; exact World.putObj_heap_same hlt5
      have z0 : ∀ k, k ≠ w.heap.size + 1 + 1 + 1 + 1 + 1 → W2.heap[k]? = W.heap[k]? := fun k hk => by rw [hW2]; exact World.putObj_heap_other hk
      have z1 := (cell_box ((z0 _ (by omega)).trans g1)).1
      have z6 := (cell_box ((z0 _ (by omega)).trans g6)).1
      have zg : (getObj (w.heap.size + 1 + 1 + 1 + 1 + 1)).run Tryz.prog W2 = .ok (.map #[⟨.agg #[.int .u16 x0, .int .u16 x1, .int .u16 x2, .int .u16 x3], .agg #[], 0⟩] 1) W2 := by simp [getObj, Sem.run, z5]
      have zl : (Builtin.len_ #[347] 3 #[.map (some (w.heap.size + 1 + 1 + 1 + 1 + 1))]).run Tryz.prog W2 = .ok (.int .i64 1) W2 := by simp [Builtin.len_, run_underlying Tryz.underlying347, zg, goInt]
      have zm : ¬ ((m : Int) + 1 < 1) := by omega
      have hW3 : Hid (W2 = _) := hW2
      clear hW2
      gi_wp2
      have hw2 := hW3.out
      have hs2 : W2.heap.size = W.heap.size := by rw [hw2]; simp
      have hb5 : w.heap.size + 1 + 1 + 1 + 1 + 1 < Wr.heap.size := by omega
      have key : Below Wr.heap.size (Wr.putObj (w.heap.size + 1 + 1 + 1 + 1 + 1) (.map #[⟨.agg #[.int .u16 x0, .int .u16 x1, .int .u16 x2, .int .u16 x3], .agg #[], 0⟩] 1)) W2 := by
        refine ⟨?_, ?_, ?_, ?_, fun k hk => ?_⟩
        · rw [hw2]; exact hB2.os
        · rw [hw2]; exact hB2.tape
        · rw [hw2]; exact hB2.output
        · rw [hs2, World.putObj_size]; exact hB2.size
        · by_cases e : k = w.heap.size + 1 + 1 + 1 + 1 + 1
          · rw [e, z5, World.putObj_heap_same hb5]
          · rw [z0 k e, World.putObj_heap_other e]; exact hB2.block k (by omega)
      refine ⟨⟨by rw [hs2]; exact Nat.le_refl _, fun k o hk ho _ => (z0 k (by omega)).trans ho⟩, ⟨z0 _ (by omega), z0 _ (by omega)⟩, ?_⟩
      simpa [hsz] using key
  case done =>
    rintro D ys W hD rfl hW hK
    rw [if_neg (by simp)] at hW
    have hb5 : w.heap.size + 1 + 1 + 1 + 1 + 1 < Wr.heap.size := by omega
    have g5 : W.heap[w.heap.size + 1 + 1 + 1 + 1 + 1]? = some (.map #[⟨.agg #[.int .u16 x0, .int .u16 x1, .int .u16 x2, .int .u16 x3], .agg #[], 0⟩] 1) := (hW.block _ (by omega)).trans (World.putObj_heap_same hb5)
    have g2 := (hW.block _ (by omega)).trans ((World.putObj_heap_other (by omega)).trans f2)
    have g3 := (hW.block _ (by omega)).trans ((World.putObj_heap_other (by omega)).trans f3)
    have g6 := (hW.block _ (by omega)).trans ((World.putObj_heap_other (by omega)).trans f6)
    obtain ⟨q2, q2'⟩ := cell_box g2
    obtain ⟨q3, q3'⟩ := cell_box g3
    obtain ⟨q6, q6'⟩ := cell_box g6
    have zg : (getObj (w.heap.size + 1 + 1 + 1 + 1 + 1)).run Tryz.prog W = .ok (.map #[⟨.agg #[.int .u16 x0, .int .u16 x1, .int .u16 x2, .int .u16 x3], .agg #[], 0⟩] 1) W := by simp [getObj, Sem.run, g5]
    have zl : (Builtin.len_ #[347] 3 #[.map (some (w.heap.size + 1 + 1 + 1 + 1 + 1))]).run Tryz.prog W = .ok (.int .i64 1) W := by simp [Builtin.len_, run_underlying Tryz.underlying347, zg, goInt]
    gi_wp2
    have hK2 : ((W.setCell ⟨w.heap.size + 1 + 1, 0, none⟩ (.int .i64 1)).setCell ⟨w.heap.size + 1 + 1 + 1, 0, none⟩ (.bool true)).heap[D]? = some (.deferred (some [])) :=
      (Below.heap_setCell _ _ _ _ (by dsimp only; omega)).trans ((Below.heap_setCell _ _ _ _ (by dsimp only; omega)).trans hK)
    refine ⟨by simp, .inl ⟨_, _, rfl, run_takeDeferred hK2, ?_⟩⟩
    have hBel : Below w.heap.size w (((W.setCell ⟨w.heap.size + 1 + 1, 0, none⟩ (.int .i64 1)).setCell ⟨w.heap.size + 1 + 1 + 1, 0, none⟩ (.bool true)).putObj D (.deferred none)) := by
      have hW2 : Below w.heap.size w W := by
        have h1 : Below w.heap.size Wr (Wr.putObj (w.heap.size + 1 + 1 + 1 + 1 + 1) (.map #[⟨.agg #[.int .u16 x0, .int .u16 x1, .int .u16 x2, .int .u16 x3], .agg #[], 0⟩] 1)) := ⟨rfl, rfl, rfl, by simp, fun k hk => World.putObj_heap_other (by omega)⟩
        exact hB.trans (h1.trans (hW.mono (by omega)))
      refine hW2.trans ⟨rfl, rfl, rfl, by simp [World.setCell], fun k hk => ?_⟩
      rw [World.putObj_heap_other (by omega)]
      exact (Below.heap_setCell _ _ _ _ (by dsimp only; omega)).trans (Below.heap_setCell _ _ _ _ (by dsimp only; omega))
    have r2 : (((W.setCell ⟨w.heap.size + 1 + 1, 0, none⟩ (.int .i64 1)).setCell ⟨w.heap.size + 1 + 1 + 1, 0, none⟩ (.bool true)).putObj D (.deferred none)).cell? ⟨w.heap.size + 1 + 1, 0, none⟩ = some (.int .i64 1) := by
      simp [World.cell?, World.putObj, World.setCell, Array.getElem?_modify, g2, show D ≠ w.heap.size + 1 + 1 by omega]
    have r3 : (((W.setCell ⟨w.heap.size + 1 + 1, 0, none⟩ (.int .i64 1)).setCell ⟨w.heap.size + 1 + 1 + 1, 0, none⟩ (.bool true)).putObj D (.deferred none)).cell? ⟨w.heap.size + 1 + 1 + 1, 0, none⟩ = some (.bool true) := by
      simp [World.cell?, World.putObj, World.setCell, Array.getElem?_modify, g3, show D ≠ w.heap.size + 1 + 1 + 1 by omega]
    generalize ((W.setCell ⟨w.heap.size + 1 + 1, 0, none⟩ (.int .i64 1)).setCell ⟨w.heap.size + 1 + 1 + 1, 0, none⟩ (.bool true)).putObj D (.deferred none) = W3 at hBel r2 r3 ⊢
    refine ⟨.tuple #[.int .i64 1, .bool true], ?_, rfl, hBel⟩
    have hr : Tryz.f249.results = #[.cell 4 3, .cell 5 4] := by kernel_rfl
    have l2 : (loadVar 3 ⟨w.heap.size + 1 + 1, 0, none⟩).run Tryz.prog W3 = .ok (.int .i64 1) W3 := by simp [loadVar, Sl.run_isAgg_scalar (P := Tryz.prog) (t := 3) (by kernel_rfl), r2]
    have l3 : (loadVar 4 ⟨w.heap.size + 1 + 1 + 1, 0, none⟩).run Tryz.prog W3 = .ok (.bool true) W3 := by simp [loadVar, Sl.run_isAgg_scalar (P := Tryz.prog) (t := 4) (by kernel_rfl), r3]
    simp [results, hr, asAddr, l2, l3]
  case stop =>
    rintro D c pre W _ _ h _
    exact h.elim
end Go.Proofs.YtookicfejdbddaaGreat

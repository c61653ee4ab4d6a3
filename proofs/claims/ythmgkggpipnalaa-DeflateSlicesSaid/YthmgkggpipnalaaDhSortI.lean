/-
  slices.Sort of ints: the library's contract at this dump (laid by the kit's tool), told of rows.
-/
import Derived.Test.YthmgkggpipnalaaM33
import Derived.Test.YthmgkggpipnalaaSl21
import Derived.Shelf.Sort.Plain
namespace Go.Proofs.Ythmgkggpipnalaa
open Go.Sl Go.Shelf
set_option linter.unusedVariables false
def lays189_ren : Go.Shelf.Ren := ⟨fun | 189 => 57 | 125 => 67 | 257 => 66 | 128 => 82 | 129 => 83 | 294 => 73 | 295 => 74 | 296 => 75 | 297 => 76 | 298 => 77 | 299 => 78 | 216 => 79 | 300 => 80 | 301 => 81 | 328 => 87 | 329 => 88 | 330 => 89 | 331 => 90 | 332 => 91 | 215 => 69 | 343 => 94 | n => n, fun | 28 => 34 | 3 => 3 | 46 => 44 | 0 => 0 | 51 => 43 | 53 => 146 | 4 => 4 | 183 => 138 | 182 => 137 | 131 => 50 | 5 => 5 | 9 => 9 | 218 => 149 | 222 => 153 | 228 => 155 | 229 => 64 | n => n, fun | n => n⟩
theorem lays189 : Go.Proofs.Lays.n189 Try.prog lays189_ren := {
  mixed := by kernel_rfl
  f125 := Try.func67.trans (congrArg some (by kernel_rfl))
  f128 := Try.func82.trans (congrArg some (by kernel_rfl))
  f129 := Try.func83.trans (congrArg some (by kernel_rfl))
  f189 := Try.func57.trans (congrArg some (by kernel_rfl))
  f215 := Try.func69.trans (congrArg some (by kernel_rfl))
  f216 := Try.func79.trans (congrArg some (by kernel_rfl))
  f257 := Try.func66.trans (congrArg some (by kernel_rfl))
  f294 := Try.func73.trans (congrArg some (by kernel_rfl))
  f295 := Try.func74.trans (congrArg some (by kernel_rfl))
  f296 := Try.func75.trans (congrArg some (by kernel_rfl))
  f297 := Try.func76.trans (congrArg some (by kernel_rfl))
  f298 := Try.func77.trans (congrArg some (by kernel_rfl))
  f299 := Try.func78.trans (congrArg some (by kernel_rfl))
  f300 := Try.func80.trans (congrArg some (by kernel_rfl))
  f301 := Try.func81.trans (congrArg some (by kernel_rfl))
  f328 := Try.func87.trans (congrArg some (by kernel_rfl))
  f329 := Try.func88.trans (congrArg some (by kernel_rfl))
  f330 := Try.func89.trans (congrArg some (by kernel_rfl))
  f331 := Try.func90.trans (congrArg some (by kernel_rfl))
  f332 := Try.func91.trans (congrArg some (by kernel_rfl))
  f343 := Try.func94.trans (congrArg some (by kernel_rfl))
  t0 := Try.underlying0
  a0 := Try.isAgg0
  z0 := Try.sizeOf0
  v0 := Try.zeroValue0
  t3 := Try.underlying3
  a3 := Try.isAgg3
  z3 := Try.sizeOf3
  v3 := Try.zeroValue3
  t4 := Try.underlying4
  a4 := Try.isAgg4
  z4 := Try.sizeOf4
  v4 := Try.zeroValue4
  t5 := Try.underlying5
  a5 := Try.isAgg5
  z5 := Try.sizeOf5
  v5 := Try.zeroValue5
  t9 := Try.underlying9
  a9 := Try.isAgg9
  z9 := Try.sizeOf9
  v9 := Try.zeroValue9
  t28 := Try.underlying34
  a28 := Try.isAgg34
  z28 := Try.sizeOf34
  v28 := Try.zeroValue34
  t46 := Try.underlying44
  a46 := Try.isAgg44
  z46 := Try.sizeOf44
  v46 := Try.zeroValue44
  t51 := Try.underlying43
  a51 := Try.isAgg43
  z51 := Try.sizeOf43
  v51 := Try.zeroValue43
  t53 := Try.underlying146
  a53 := Try.isAgg146
  z53 := Try.sizeOf146
  v53 := Try.zeroValue146
  t131 := Try.underlying50
  a131 := Try.isAgg50
  z131 := Try.sizeOf50
  v131 := Try.zeroValue50
  t182 := Try.underlying137
  a182 := Try.isAgg137
  z182 := Try.sizeOf137
  v182 := Try.zeroValue137
  t183 := Try.underlying138
  a183 := Try.isAgg138
  z183 := Try.sizeOf138
  v183 := Try.zeroValue138
  t218 := Try.underlying149
  a218 := Try.isAgg149
  z218 := Try.sizeOf149
  v218 := Try.zeroValue149
  t222 := Try.underlying153
  a222 := Try.isAgg153
  z222 := Try.sizeOf153
  v222 := Try.zeroValue153
  t228 := Try.underlying155
  a228 := Try.isAgg155
  z228 := Try.sizeOf155
  v228 := Try.zeroValue155
  t229 := Try.underlying64
  a229 := Try.isAgg64
  z229 := Try.sizeOf64
  v229 := Try.zeroValue64 }
theorem flat_i64 (l : List Int) : l.flatMap (fun x => [Value.int .i64 x]) = l.map (Value.int .i64) := by
  induction l with
  | nil => rfl
  | cons a l ih => simp [List.flatMap_cons, ih]
theorem put_mid (pre vs post : List Value) (d : List Int) (hd : d.length = vs.length) : Go.Sort.putCells (Value.int .i64) pre.length d.toArray (pre ++ vs ++ post).toArray = (pre ++ d.map (Value.int .i64) ++ post).toArray := by
  apply Array.ext_getElem?
  intro k
  unfold Go.Sort.putCells
  rw [Array.getElem?_mapIdx]
  simp only [List.getElem?_toArray, List.size_toArray]
  rcases Nat.lt_or_ge k pre.length with h1 | h1
  · rw [List.append_assoc, List.getElem?_append_left h1, List.append_assoc, List.getElem?_append_left h1]
    cases pre[k]? with
    | none => rfl
    | some v => simp; omega
  · rcases Nat.lt_or_ge k (pre.length + d.length) with h2 | h2
    · rw [List.append_assoc, List.getElem?_append_right h1, List.getElem?_append_left (by omega), List.append_assoc, List.getElem?_append_right h1, List.getElem?_append_left (by simp; omega)]
      rw [List.getElem?_eq_getElem (by omega : k - pre.length < vs.length), List.getElem?_map, List.getElem?_eq_getElem (by omega : k - pre.length < d.length)]
      simp [h1, h2]
      simp [show k - pre.length < d.length by omega]
    · rw [List.append_assoc, List.getElem?_append_right h1, List.getElem?_append_right (by omega), List.append_assoc, List.getElem?_append_right h1, List.getElem?_append_right (by simp; omega)]
      rw [List.length_map, hd]
      cases post[k - pre.length - vs.length]? with
      | none => rfl
      | some v => simp; omega
theorem k_sortI (p : Option Addr) (n cap : Nat) (l : List Int) (h0 : 0 < n) (hn : n ≤ 1000000) : Ctr Try.prog 57 [.slice p n cap] [Row I3 p n cap l] (Ret fun v G => v = .tuple #[] ∧ G = [Row I3 p n cap (l.mergeSort fun x y => decide (x ≤ y))]) := by
  intro w0 F w hi
  have hl1 : l.length = n := ((own (w0 := w0) (L := Row I3 p n cap l :: F) mm0).fact hi).1
  obtain ⟨zz, hzz, hi2⟩ := Inv.opn (Sl.open_ w0) (hi.imp (fun h hh => hh.2))
  cases zz with
  | none => obtain ⟨_, hz, _⟩ := hzz; omega
  | some zz =>
    obtain ⟨b, o, pre, post⟩ := zz
    obtain ⟨rfl, e1, e2, e3, e4⟩ := hzz
    have hf : l.flatMap I3.e = l.map (Value.int .i64) := flat_i64 l
    rw [hf] at hi2 e2
    have hi3 : Inv w0 (Cel b 3 (pre ++ l.map (Value.int .i64) ++ post) :: F) w := hi2
    have hbl := hi3.cel_block
    have hlt : b < w.heap.size := (Array.getElem?_eq_some_iff.1 hbl).1
    have hH : Go.Sort.Holds (Value.int .i64) w b o l.toArray := by
      intro j hj
      have hj2 : j < l.length := by simpa using hj
      refine ⟨?_, hi3.cel_frozen _⟩
      rw [hi3.cel_cell, List.append_assoc, List.getElem?_append_right (by omega), show o + j - pre.length = j by omega, List.getElem?_append_left (by simp; omega), List.getElem?_map, List.getElem?_eq_getElem hj2]
      rw [getElem!_pos l.toArray j (by simpa using hj2)]
      simp
    have hc := Any.slices_Sort_int lays189 b o cap l w hH hlt (by omega)
    rw [hl1] at hc
    refine hc.mono ?_
    rintro e w' ⟨rfl, m, os, rfl⟩
    have hsl : (l.mergeSort fun x y => decide (x ≤ y)).length = l.length := List.length_mergeSort _
    refine ⟨[Row I3 (some ⟨b, o, none⟩) n cap (l.mergeSort fun x y => decide (x ≤ y))], ?_, _, rfl, rfl, rfl⟩
    have hw := hi3.write (w' := Go.Sort.grow (Go.Sort.putRow (Value.int .i64) (Go.Sort.ahead w m) b o (l.mergeSort fun x y => decide (x ≤ y)).toArray) os) (cs' := pre ++ (l.mergeSort fun x y => decide (x ≤ y)).map (Value.int .i64) ++ post) rfl rfl rfl (by simp [Go.Sort.ahead]) (by
      rw [Go.Sort.heap_grow_old _ _ (by simpa [Go.Sort.ahead] using hlt)]
      show (w.heap.modify b _)[b]? = _
      rw [Array.getElem?_modify, if_pos rfl, hbl]
      simp only [Option.map_some, Go.Sort.onCells]
      rw [← e1, put_mid _ _ _ _ (by simp [hsl])]) (fun k hk hks => by
      rw [Go.Sort.heap_grow_old _ _ (by simpa [Go.Sort.ahead] using hks)]
      show (w.heap.modify b _)[k]? = _
      rw [Array.getElem?_modify, if_neg (Ne.symm hk)])
    refine hw.imp (fun h hh => ⟨by rw [hsl, hl1], ?_⟩)
    have hf2 : (l.mergeSort fun x y => decide (x ≤ y)).flatMap I3.e = (l.mergeSort fun x y => decide (x ≤ y)).map (Value.int .i64) := flat_i64 _
    rw [hf2]
    exact .inr ⟨b, o, pre, post, rfl, hh, e1, by rw [List.length_map, hsl, hl1]; show n = n * 1; omega, e3, e4⟩
end Go.Proofs.Ythmgkggpipnalaa

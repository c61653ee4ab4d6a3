/- Walks of functions that the law reaches, and what they lean on; no conditions. -/
import Derived.Test.YtmbljkghkcgejaaGreatSl21
set_option linter.unusedVariables false
set_option linter.unusedSimpArgs false
set_option maxRecDepth 100000
namespace Go.Sl
section
variable {C : Ctx} {Q : QT} {E : Env} {L : List ae} {ops : Array Oper} {rest : List Oper} {d : Nat} {ty : TypeId} {pos : String} {aft : Array Edge}
theorem tX (l : List Int) (h : ∀ x ∈ l, 0 ≤ x ∧ x < 256) : (strOfNums l).data.toList.map (fun b => Value.int .u8 b.toNat) = l.map (Value.int .u8) := by
 unfold strOfNums
 simp only [List.map_map]
 refine List.map_congr_left fun x hx => ?_
 have := h x hx
 simp only [Function.comp_apply, UInt8.toNat_ofNat', Value.int.injEq, true_and]
 rw [Nat.mod_eq_of_lt (by omega)]
 omega
theorem Il {l m : List Int} (hl : ∀ x ∈ l, 0 ≤ x ∧ x < 256) (hm : ∀ x ∈ m, 0 ≤ x ∧ x < 256) (h : strOfNums l = strOfNums m) : l = m := by
 have e := tX l hl
 rw [h, tX m hm] at e
 exact (List.map_inj_right (fun x y e => by cases e; rfl)).1 e.symm
theorem FH (l : List Int) : (strOfNums l).size = l.length := by simp [strOfNums, ByteArray.size]
theorem C9 {s x : Operand} {t tS e sz by_ n m cap : Nat} {p : Option Addr} {vs ws zs : List Value} {u : ByteArray} {F : List ae}
  (ht : sliceB C.P t = some (e, sz, by_)) (hS : C.P.underlying tS = some .string) (hz : dc C.P e = some zs) (hs1 : sz = 1) (hby : Nat.ble 1 by_ = true)
  (hs : ay E s = some (.slice p n cap)) (hx : ay E x = some (.string u)) (hu : u.data.toList.map (fun b => Value.int .u8 b.toNat) = ws) (hum : u.size = m)
  (hL : iK L (Sl p n cap e sz vs) F) (hb : (n + m) * by_ ≤ 140737488355328) :
  lB C (.call ⟨.builtin .append, [s, x].toArray, #[t, tS]⟩) ty E L (fun v L' => ∃ p' cap', v = .slice p' (n + m) cap' ∧ L' = Sl p' (n + m) cap' e sz (vs ++ ws) :: F) := by
 intro d pos aft g a w K Qx ha hi hK
 obtain ⟨ht1, i, hi2, rfl, rfl⟩ := je ht
 obtain ⟨i', z, hz1, hz2, hz3, hz4⟩ := iX hz
 rw [hi2] at hz1
 cases hz1
 have hby := Nat.le_of_ble_eq_true hby
 have hnm : n + m ≤ (n + m) * i.bytes := Nat.le_mul_of_pos_right _ hby
 have hsmall : n + m ≤ 140737488355328 := by omega
 have hwl : ws.length = m * i.size := by rw [← hu, hs1, Nat.mul_one, ← hum, List.length_map, Array.length_toList]; rfl
 obtain ⟨consts, hrun⟩ := jz (C := C) (ty := ty) (pos := pos) (aft := aft) (b := .append) (xs := [s, x]) (tys := #[t, tS]) (vs := [.slice p n cap, .string u]) (a := a) (by simp [ha.eval hs, ha.eval hx]) d g w
 suffices h : ∃ p' cap' w', (Builtin.append_ #[t, tS] ty #[.slice p n cap, .string u]).run C.P w = .ok (.slice p' (n + m) cap') w' ∧ Inv C.w0 (Sl p' (n + m) cap' e i.size (vs ++ ws) :: F) w' by
  obtain ⟨p', cap', w', hr, hi'⟩ := h
  unfold Oper.wp
  rw [hrun]
  simp only [builtin, Sem.run_bind, hr, Result.andThen_ok, Sem.run_pure]
  exact hK _ _ _ ⟨p', cap', rfl, rfl⟩ hi'
 have hfirst : ∀ w1 : World, (Builtin.firstCells i.size m (.string u)).run C.P w1 = .ok ws.toArray w1 := by
  intro w1
  have e0 : u.extract 0 m = u := by
   rw [← hum]
   exact ByteArray.extract_zero_size
  simp only [Builtin.firstCells, e0, Sem.run_pure]
  congr 1
  apply Array.ext'
  simp [← hu]
 have hall : ∀ y ∈ ws, y.oneCell' = true := fun y hy => by
  rw [← hu] at hy
  obtain ⟨b, _, rfl⟩ := List.mem_map.1 hy
  rfl
 have hgrow : ∀ (vs0 : List Value), vs0 = vs → n * i.size = vs.length → cap < n + m →
   (∀ w1 : World, (∀ q, w1.cell? q = w.cell? q) → (Builtin.firstCells i.size n (.slice p n cap)).run C.P w1 = .ok vs.toArray w1) →
   Inv C.w0 F w →
   ∃ p' cap' w', (Builtin.append_ #[t, tS] ty #[.slice p n cap, .string u]).run C.P w = .ok (.slice p' (n + m) cap') w' ∧ Inv C.w0 (Sl p' (n + m) cap' e i.size (vs ++ ws) :: F) w' := by
  intro vs0 _ hvl hlt hold hiF
  have hfit : Builtin.nextslicecap (n + m) cap * i.bytes ≤ 281474976710656 := growslice_fits hlt hb
  have h63 : ¬ (9223372036854775807 < ((n : Int) + (m : Int))) := by omega
  have h48 : ¬ (281474976710656 < Builtin.nextslicecap (n + m) cap * i.bytes) := by omega
  have hng : ¬ (n + m ≤ cap) := by omega
  refine ⟨some ⟨w.heap.size, 0, none⟩, grownCap w (n + m) cap e, w.drew.alloc (.cells (vs ++ ws ++ (Builtin.zeroCells z.cells (grownCap w (n + m) cap e - (n + m))).toList).toArray e), ?_, ?_⟩
  ·have e1 := hold w.drew (fun q => by simp)
   have e2 := hfirst w.drew
   have harr : ∀ Z : Array Value, (vs ++ ws ++ Z.toList).toArray = vs.toArray ++ ws.toArray ++ Z := fun Z => by apply Array.ext'; simp
   rw [harr]
   simp [Builtin.append_, run_underlying ht1, run_underlying hS, sizeOf, typeInfo, zeroValue, hi2, hz2, Builtin.lenOf, hum, hng, h63, h48, Question.forced, e1, e2, newRow, grownCap]
   congr 1
   congr 1
   apply Array.ext'
   simp
  ·have hge := grownCap_ge w (n + m) cap e
   refine Inv.imp ?_ (hiF.drew.alloc e (vs ++ ws ++ (Builtin.zeroCells z.cells (grownCap w (n + m) cap e - (n + m))).toList))
   intro h hc
   refine .inr ⟨_, 0, [], (Builtin.zeroCells z.cells (grownCap w (n + m) cap e - (n + m))).toList, rfl, by simpa [av] using hc, rfl, ?_, ?_, hge⟩
   ·simp [← hvl, hwl, Nat.add_mul]
   ·have : z.cells.size = i.size := by rw [hz3, hz4]; simp
    simp [size_zeroCells, this]
 obtain ⟨zz, hzz, hi1⟩ := (hi.perm hL.perm).pS (Sl.open_ C.w0)
 cases zz with
 | none =>
  obtain ⟨rfl, rfl, rfl, rfl⟩ := hzz
  by_cases hm0 : m = 0
  ·subst hm0
   simp at hwl
   subst hwl
   refine ⟨none, 0, w, ?_, (hi1.Du e i.size)⟩
   have e1 := hfirst w
   simp [Builtin.append_, run_underlying ht1, run_underlying hS, sizeOf, typeInfo, hi2, Builtin.lenOf, hum, e1]
  ·exact hgrow [] rfl (by simp) (by omega) (fun w1 _ => by simp [Builtin.firstCells]) hi1
 | some zz =>
  obtain ⟨b, o, pre, post⟩ := zz
  obtain ⟨rfl, e1, e2, e3, e4⟩ := hzz
  by_cases hroom : n + m ≤ cap
  ·have hfit : o + n * i.size + ws.length ≤ (pre ++ vs ++ post).length := by
    have : (n + m - n) * i.size ≤ (cap - n) * i.size := Nat.mul_le_mul_right _ (by omega)
    rw [show n + m - n = m by omega] at this
    simp only [List.length_append, e1, e2, hwl]
    omega
   obtain ⟨w', hr, hi'⟩ := kd (C := C) ws (o + n * i.size) 0 _ _ w hall (by simpa using hfit) hi1
   refine ⟨some ⟨b, o, none⟩, cap, w', ?_, ?_⟩
   ·have hf := hfirst w
    simp [Builtin.append_, run_underlying ht1, run_underlying hS, sizeOf, typeInfo, hi2, Builtin.lenOf, hum, hroom, hf, Addr.hJ, hr]
   ·refine Inv.cls (B := [av b e (pre ++ (vs ++ ws) ++ post.drop ws.length)]) (fun h hc => Sl.mk hc e1 (by simp [e2, hwl, Nat.add_mul]) ?_ hroom) ?_
    ·simp only [List.length_drop, hwl]
     have : (cap - (n + m)) * i.size = (cap - n) * i.size - m * i.size := by rw [← Nat.sub_mul]; congr 1; omega
     omega
    ·have e5 : (pre ++ vs ++ post).take (o + n * i.size + 0) = pre ++ vs := by
      rw [Nat.add_zero]
      exact List.take_left' (by simp [e1, e2])
     have e6 : (pre ++ vs ++ post).drop (o + n * i.size + 0 + ws.length) = post.drop ws.length := by
      rw [Nat.add_zero, show o + n * i.size + ws.length = (pre ++ vs).length + ws.length by simp [e1, e2]]
      rw [← List.drop_drop, List.drop_left]
     rw [e5, e6] at hi'
     simpa [List.append_assoc] using hi'
  ·refine hgrow vs rfl e2.symm (by omega) (fun w1 hw1 => ?_) hi1.tail
   refine run_firstCells_some (P := C.P) w1 i.size n _ n cap vs e2 (fun j v hj => ?_)
   have hlt := (List.getElem?_eq_some_iff.1 hj).1
   rw [hw1, Addr.hJ, Inv.jU hi1]
   rw [List.append_assoc, List.getElem?_append_right (by omega), show o + j - pre.length = j by omega, List.getElem?_append_left hlt]
   exact hj
theorem Cq {T : TypeId} {s x : Operand} {t tS by_ n cap : Nat} {p : Option Addr} {l l2 : List Int} {F : List ae} {zs : List Value}
  (ht : sliceB C.P t = some (T, 1, by_)) (hS : C.P.underlying tS = some .string) (hz : dc C.P T = some zs) (hby : Nat.ble 1 by_ = true)
  (hs : ay E s = some (.slice p n cap)) (hx : ay E x = some (.string (strOfNums l2))) (hl2 : ∀ x ∈ l2, 0 ≤ x ∧ x < 256) (hL : iK L (Row (qE T .u8) p n cap l) F) (hb : (n + l2.length) * by_ ≤ 140737488355328) (hd : Nat.blt d C.n = true)
  (k : ∀ p' cap', dk C ops rest Q ((d, .slice p' (n + l2.length) cap') :: E) (Row (qE T .u8) p' (n + l2.length) cap' (l ++ l2) :: F)) :
  dk C ops (⟨some d, .call ⟨.builtin .append, [s, x].toArray, #[t, tS]⟩, ty, pos, aft, none⟩ :: rest) Q E L := by
 refine nY (fun d pos aft g a w K Qx ha hi hK => ?_) hd (R := fun v L' => ∃ p' cap', v = .slice p' (n + l2.length) cap' ∧ L' = Row (qE T .u8) p' (n + l2.length) cap' (l ++ l2) :: F) fun v L' ⟨p', cap', e1, e2⟩ => by subst e1; subst e2; exact k p' cap'
 have hl1 : l.length = n := ((own (w0 := C.w0) (L := Row (qE T .u8) p n cap l :: F) ak).fact (hi.perm hL.perm)).1
 have hi2 : Inv C.w0 (Sl p n cap T 1 (l.flatMap (qE T .u8).e) :: F) w := (hi.perm hL.perm).imp (fun h hh => hh.2)
 refine C9 (C := C) (E := E) (ty := ty) (vs := l.flatMap (qE T .u8).e) (ws := l2.map (Value.int .u8)) ht hS hz rfl hby hs hx (tX l2 hl2) (FH l2) iK.head hb d pos aft g a w K Qx ha hi2 ?_
 rintro v L' w' ⟨p', cap', e1, e2⟩ hi'
 subst e2
 exact hK v _ w' ⟨p', cap', e1, rfl⟩ (hi'.imp (fun h hh => ⟨by simp [hl1], by rw [List.flatMap_append, show l2.flatMap (qE T .u8).e = l2.map (Value.int .u8) from Ia l2]; exact hh⟩))
theorem Lq {l m : List Int} (hl : ∀ x ∈ l, 0 ≤ x ∧ x < 256) (hm : ∀ x ∈ m, 0 ≤ x ∧ x < 256) (h : l ≠ m) : ((strOfNums l).toList == (strOfNums m).toList) = false := by
 refine beq_eq_false_iff_ne.2 fun e => h (Il hl hm ?_)
 exact ByteArray.ext (Array.ext' (by rw [← ByteArray.toList_eq, ← ByteArray.toList_eq, e]))
end
end Go.Sl

/- Walks of functions that the law reaches, and what they lean on; no conditions. -/
import Derived.Test.YtmbljkghkcgejaaGreatSl20
import Derived.Laws.BytesArg
set_option linter.unusedVariables false
set_option linter.unusedSimpArgs false
set_option maxRecDepth 100000
namespace Go.Sl
def N7 (P : Program) (t : TypeId) (name : String) : Option FuncId := match (P.info? t).bind fun i => i.methods.find? (·.name == name) with
 | some m => if m.path.isEmpty then (match m.func, P.underlying t with
  | some (_, false), some (.pointer _) => none
  | some (f, false), some _ => some f
  | some (f, true), some (.pointer _) => some f
  | _, _ => none) else none
 | none => none
section
variable {C : Ctx} {Q : QT} {E : Env} {L L' F : List ae} {ops : Array Oper} {rest : List Oper} {d : Nat} {ty : TypeId} {pos : String} {aft : Array Edge} {op : Op} {v : Value}
theorem Ia (l : List Int) : l.flatMap (fun x => [Value.int .u8 x]) = l.map (Value.int .u8) := by
 induction l with
 | nil => rfl
 | cons a l ih => simp [List.flatMap_cons, ih]
theorem DC (zs : List Value) (m : Nat) : List.map (fun i => zs[i % zs.length]?.getD default) (List.range (m * zs.length)) = (List.replicate m zs).flatten := by
 induction m with
 | zero => simp
 | succ m ih =>
  rw [Nat.succ_mul, List.range_add, List.map_append, ih, List.replicate_succ', List.flatten_append, List.flatten_singleton, List.map_map]
  congr 1
  refine List.ext_getElem (by simp) (fun j h1 h2 => ?_)
  simp only [List.getElem_map, List.getElem_range, Function.comp_apply]
  rw [Nat.mul_add_mod', Nat.mod_eq_of_lt h2, List.getElem?_eq_getElem h2]
  rfl
theorem Dh {s x : Operand} {t tI e sz by_ n m cap : Nat} {p : Option Addr} {vs zs : List Value} {k k' : IntKind} {R : ae}
  (ht : sliceB C.P t = some (e, sz, by_)) (hI : C.P.underlying tI = some (.int k')) (hz : dc C.P e = some zs) (hsz : Nat.ble 1 sz = true) (hby : Nat.ble 1 by_ = true)
  (hs : ay E s = some (.slice p n cap)) (hx : ay E x = some (.int k (m : Int)))
  (hM : R ∈ L) (hR : ∀ h, R C.w0 h → Rd p n sz vs C.w0 h) (hr : cap < n + m) (hb : (n + m) * by_ ≤ 140737488355328) :
  lB C (.call ⟨.builtin .append, [s, x].toArray, #[t, tI]⟩) ty E L (fun v L' => ∃ p' cap', v = .slice p' (n + m) cap' ∧ L' = Sl p' (n + m) cap' e sz (vs ++ (List.replicate m zs).flatten) :: L) := by
 intro d pos aft g a w K Qx ha hi hK
 obtain ⟨ht1, i, hi2, rfl, rfl⟩ := je ht
 obtain ⟨i', z, hz1, hz2, hz3, hz4⟩ := iX hz
 rw [hi2] at hz1
 cases hz1
 have hsz := Nat.le_of_ble_eq_true hsz
 have hby := Nat.le_of_ble_eq_true hby
 have hnm : n + m ≤ (n + m) * i.bytes := Nat.le_mul_of_pos_right _ hby
 have hm2 : m * i.bytes ≤ (n + m) * i.bytes := Nat.mul_le_mul_right _ (by omega)
 obtain ⟨hwl, hwc⟩ := hi.rd hM hR
 obtain ⟨consts, hrun⟩ := jz (C := C) (ty := ty) (pos := pos) (aft := aft) (b := .append) (xs := [s, x]) (tys := #[t, tI]) (vs := [.slice p n cap, .int k (m : Int)]) (a := a) (by simp [ha.eval hs, ha.eval hx]) d g w
 suffices h : ∃ p' cap' w', (Builtin.append_ #[t, tI] ty #[.slice p n cap, .int k (m : Int)]).run C.P w = .ok (.slice p' (n + m) cap') w' ∧ Inv C.w0 (Sl p' (n + m) cap' e i.size (vs ++ (List.replicate m zs).flatten) :: L) w' by
  obtain ⟨p', cap', w', hr, hi'⟩ := h
  unfold Oper.wp
  rw [hrun]
  simp only [builtin, Sem.run_bind, hr, Result.andThen_ok, Sem.run_pure]
  exact hK _ _ _ ⟨p', cap', rfl, rfl⟩ hi'
 have hw : IntKind.i64.wrap (m : Int) = m := gQ (by omega) (by omega)
 have hfit : Builtin.nextslicecap (n + m) cap * i.bytes ≤ 281474976710656 := growslice_fits hr hb
 have h63 : ¬ (9223372036854775807 < ((n : Int) + (m : Int))) := by omega
 have h48 : ¬ (281474976710656 < Builtin.nextslicecap (n + m) cap * i.bytes) := by omega
 have hng : ¬ (n + m ≤ cap) := by omega
 have h47 : ¬ (281474976710656 < (m : Int) * (i.bytes : Int)) := by
  have : (m : Int) * (i.bytes : Int) = ((m * i.bytes : Nat) : Int) := by simp
  omega
 have hzz : ¬ (m * i.size = 0) ∨ m = 0 := by
  rcases Nat.eq_zero_or_pos m with h | h
  ·exact .inr h
  ·exact .inl (by have := Nat.mul_pos h hsz; omega)
 have hzc : (if m * i.size = 0 then (#[] : Array Value) else Builtin.zeroCells z.cells m).toList = (List.replicate m zs).flatten := by
  rcases hzz with h | h
  ·rw [if_neg h]
   simp only [Builtin.zeroCells, hz3, hz4]
   rw [← DC]
   simp
  ·subst h
   simp
 have hm0 : ¬ ((m : Int) < 0) := by omega
 have hold : ∀ w1 : World, (∀ q, w1.cell? q = w.cell? q) → (Builtin.firstCells i.size n (.slice p n cap)).run C.P w1 = .ok vs.toArray w1 := by
  intro w1 hw1
  by_cases hn0 : n = 0
  ·subst hn0
   simp at hwl
   subst hwl
   cases p <;> simp [Builtin.firstCells, loadCells, loadCellsFrom]
  ·rcases hwc with hwc | ⟨b2, o2, rfl, hc⟩
   ·exact absurd hwc hn0
   ·exact run_firstCells_some (P := C.P) w1 i.size n _ n cap vs hwl (fun j v hj => by rw [hw1, Addr.hJ]; exact hc j v hj)
 refine ⟨some ⟨w.heap.size, 0, none⟩, grownCap w (n + m) cap e, w.drew.alloc (.cells (vs ++ (List.replicate m zs).flatten ++ (Builtin.zeroCells z.cells (grownCap w (n + m) cap e - (n + m))).toList).toArray e), ?_, ?_⟩
 ·have e1 := hold w.drew (fun q => by simp)
  have harr : ∀ Z : Array Value, (vs ++ (List.replicate m zs).flatten ++ Z.toList).toArray = vs.toArray ++ (if m * i.size = 0 then (#[] : Array Value) else Builtin.zeroCells z.cells m) ++ Z := fun Z => by apply Array.ext'; simp [← hzc]
  rw [harr]
  rcases Decidable.em (m * i.size = 0) with h0 | h0
  ·simp [Builtin.append_, run_underlying ht1, run_underlying hI, sizeOf, typeInfo, zeroValue, hi2, hz2, hng, h63, h48, h47, Question.forced, e1, newRow, grownCap, asInt, asIntOf, hw, h0, hm0]
  ·simp [Builtin.append_, run_underlying ht1, run_underlying hI, sizeOf, typeInfo, zeroValue, hi2, hz2, hng, h63, h48, h47, Question.forced, e1, newRow, grownCap, asInt, asIntOf, hw, h0, hm0]
 ·have hge := grownCap_ge w (n + m) cap e
  refine Inv.imp ?_ (hi.drew.alloc e (vs ++ (List.replicate m zs).flatten ++ (Builtin.zeroCells z.cells (grownCap w (n + m) cap e - (n + m))).toList))
  intro h hc
  have hzl : zs.length = i.size := hz4.symm
  refine .inr ⟨_, 0, [], (Builtin.zeroCells z.cells (grownCap w (n + m) cap e - (n + m))).toList, rfl, by simpa [av] using hc, rfl, ?_, ?_, hge⟩
  ·simp [hwl, hzl, Nat.add_mul]
  ·have : z.cells.size = i.size := by rw [hz3, hz4]; simp
   simp [size_zeroCells, this]
theorem Fb {α : Type} (c : Ec α) (x : α) (m : Nat) : (List.replicate m (c.e x)).flatten = (List.replicate m x).flatMap c.e := by
 induction m with
 | zero => rfl
 | succ m ih => simp [List.replicate_succ, ih]
theorem vp {α : Type} {c : Ec α} {s x : Operand} {t tI by_ n cap : Nat} {p : Option Addr} {l : List α} {zs : List Value} {k k' : IntKind} (m : Nat)
  (ht : sliceB C.P t = some (c.T, c.sz, by_)) (hI : C.P.underlying tI = some (.int k')) (hz : dc C.P c.T = some zs) (hze : zs = c.e c.d) (hsz : Nat.ble 1 c.sz = true) (hby : Nat.ble 1 by_ = true)
  (hs : ay E s = some (.slice p n cap)) (hx : ay E x = some (.int k (m : Int))) (H : Has C.w0 L c p n l) (hr : cap < n + m) (hb : (n + m) * by_ ≤ 140737488355328) (hd : Nat.blt d C.n = true)
  (kk : ∀ p' cap', dk C ops rest Q ((d, .slice p' (n + m) cap') :: E) (Row c p' (n + m) cap' (l ++ List.replicate m c.d) :: L)) :
  dk C ops (⟨some d, .call ⟨.builtin .append, [s, x].toArray, #[t, tI]⟩, ty, pos, aft, none⟩ :: rest) Q E L := by
 refine nY (fun d pos aft g a w K Qx ha hi hK => ?_) hd (R := fun v L' => ∃ p' cap', v = .slice p' (n + m) cap' ∧ L' = Row c p' (n + m) cap' (l ++ List.replicate m c.d) :: L) fun v L' ⟨p', cap', e1, e2⟩ => by subst e1; subst e2; exact kk p' cap'
 have hl1 : l.length = n := H.len hi
 obtain ⟨R, hM, hR⟩ := H
 refine Dh (C := C) (E := E) (ty := ty) (vs := l.flatMap c.e) (R := R) ht hI hz hsz hby hs hx hM (fun h hh => (hR h hh).2) hr hb d pos aft g a w K Qx ha hi ?_
 rintro v L' w' ⟨p', cap', e1, e2⟩ hi'
 subst e2
 exact hK v _ w' ⟨p', cap', e1, rfl⟩ (hi'.imp (fun h hh => ⟨by simp [hl1], by rw [List.flatMap_append, ← Fb, ← hze]; exact hh⟩))
def L4 (b : Nat) (o : Obj) : ae := fun _ h => h b = some o
theorem Inv.put {w0 w w' : World} {b : Nat} {T : TypeId} {cs : List Value} {o' : Obj} {L : List ae} (hi : Inv w0 (av b T cs :: L) w)
  (hos : w'.os = w.os) (ht : w'.tape = w.tape) (ho : w'.output = w.output) (hs : w.heap.size ≤ w'.heap.size)
  (hblk : w'.heap[b]? = some o') (hoth : ∀ k, k ≠ b → k < w.heap.size → w'.heap[k]? = w.heap[k]?) : Inv w0 (L4 b o' :: L) w' := by
 have hge := hi.Dm
 obtain ⟨hb, h, a, h1, h2, d, l1, l2, p, k⟩ := hi
 have hlt : ∀ j o, w.heap[j]? = some o → j < w.heap.size := fun j o e => by
  rcases Nat.lt_or_ge j w.heap.size with h | h
  ·exact h
  ·simp [Array.getElem?_eq_none h] at e
 have hd : Hp.lM (fun n => if n = b then some o' else none) h2 := fun n => by
  by_cases e : n = b
  ·right
   rcases d n with x | x
   ·rw [e, p] at x; cases x
   ·exact x
  ·left; simp [e]
 refine ⟨hb.trans ⟨hos, ht, ho, hs, fun j hj => ?_⟩, Hp.join _ h2, ?_, _, h2, hd, Hp.iU _ _, Hp.iq hd, by simp [L4], k⟩
 ·have := hb.size
  exact hoth j (by omega) (by omega)
 ·intro j o e
  unfold Hp.join at e
  by_cases hj : j = b
  ·subst hj
   simp at e
   subst e
   exact ⟨hge, hblk⟩
  ·simp [hj] at e
   obtain ⟨g1, g2⟩ := a j o (l2 j o e)
   exact ⟨g1, by rw [hoth j hj (hlt j o g2)]; exact g2⟩
theorem HX {x : Operand} {t e : TypeId} {c : Ec Int} {p : Option Addr} {n cap : Nat} {l : List Int} (hs : C.P.underlying t = some (.slice e)) (he : C.P.underlying e = some (.int .u8)) (hx : ay E x = some (.slice p n cap)) (hn : 0 < n) (hL : iK L (Row c p n cap l) F) : bX C (.convert t t x) ty E L (.slice p n cap) (bJ c p n l :: F) := by
 intro d pos aft g a w ha hi
 have hi1 := hi.perm hL.perm
 have hl1 : l.length = n := ((own (w0 := C.w0) (L := Row c p n cap l :: F) ak).fact hi1).1
 obtain ⟨zz, hzz, hi2⟩ := Inv.pS (Sl.open_ C.w0) (hi1.imp (fun h hh => hh.2))
 cases zz with
 | none => obtain ⟨_, h0, _⟩ := hzz; omega
 | some zz =>
  obtain ⟨b, o, pre, post⟩ := zz
  obtain ⟨rfl, e1, e2, e3, e4⟩ := hzz
  have hi3 : Inv C.w0 (av b c.T (pre ++ l.flatMap c.e ++ post) :: F) w := hi2
  have hbl := hi3.mq
  refine ⟨w.freeze ⟨b, (pre ++ l.flatMap c.e ++ post).length, none⟩ 1, .inl ?_, ?_, fun h => by cases h⟩
  ·simp [execOp, ha.eval hx, convert, run_underlying hs, run_underlying he, markStringish, World.shape?, hbl]
  ·have hx2 : ∃ fr, (w.freeze ⟨b, (pre ++ l.flatMap c.e ++ post).length, none⟩ 1).heap[b]? = some (.cells (pre ++ l.flatMap c.e ++ post).toArray c.T fr) := by
    refine ⟨((pre ++ l.flatMap c.e ++ post).length, (pre ++ l.flatMap c.e ++ post).length + 1), ?_⟩
    simp [World.freeze, Array.getElem?_modify, hbl]
   obtain ⟨fr, hfr⟩ := hx2
   have hp := hi3.put (w' := w.freeze ⟨b, (pre ++ l.flatMap c.e ++ post).length, none⟩ 1) rfl rfl rfl (by simp [World.freeze]) hfr (fun k hk _ => by
    simp only [World.freeze, Nat.one_ne_zero, if_false, Array.getElem?_modify]
    rw [if_neg (Ne.symm hk)])
   refine hp.imp (fun h hh => ⟨hl1, by rw [jf, hl1], .inr ⟨b, o, rfl, fun i v hv => ?_⟩⟩)
   have hlt := (List.getElem?_eq_some_iff.1 hv).1
   unfold pA
   rw [show h b = _ from hh]
   simp only [Option.isSome_none, Bool.false_eq_true, if_false, List.getElem?_toArray]
   rw [List.append_assoc, List.getElem?_append_right (by omega), show o + i - pre.length = i by omega, List.getElem?_append_left hlt]
   exact hv
end
end Go.Sl

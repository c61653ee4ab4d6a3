/- Walks of functions that the law reaches, and what they lean on; no conditions. -/
import Derived.Test.YtmbljkghkcgejaaGreatSl3
import Derived.Laws.AppendOwn
import Derived.Laws.MakeOwn
set_option linter.unusedVariables false
set_option linter.unusedSimpArgs false
set_option maxRecDepth 100000
namespace Go.Sl
open Go.RowKit (Below)
theorem Sl.open_ {p : Option Addr} {n cap T sz : Nat} {vs : List Value} (w0 : World) (h : Hp) (hs : Sl p n cap T sz vs w0 h) :
  ∃ z : Option (Nat × Nat × List Value × List Value), (match z with
   | none => p = none ∧ n = 0 ∧ cap = 0 ∧ vs = []
   | some (b, o, pre, post) => p = some ⟨b, o, none⟩ ∧ pre.length = o ∧ vs.length = n * sz ∧ (cap - n) * sz ≤ post.length ∧ n ≤ cap) ∧
   cA w0 (match z with | none => [] | some (b, o, pre, post) => [av b T (pre ++ vs ++ post)]) h := by
 rcases hs with ⟨rfl, rfl, rfl, rfl⟩ | ⟨b, o, pre, post, e1, e2, e3, e4, e5, e6⟩
 ·exact ⟨none, ⟨rfl, rfl, rfl, rfl⟩, trivial⟩
 ·exact ⟨some (b, o, pre, post), ⟨e1, e3, e4, e5, e6⟩, h, fun _ => none, fun _ => .inr rfl, Hp.le_refl _, fun _ _ e => by simp at e, e2, trivial⟩
theorem Sl.mk {b o n cap T sz : Nat} {pre vs post : List Value} {w0 : World} {h : Hp} (hc : cA w0 [av b T (pre ++ vs ++ post)] h) (h1 : pre.length = o) (h2 : vs.length = n * sz) (h3 : (cap - n) * sz ≤ post.length) (h4 : n ≤ cap) : Sl (some ⟨b, o, none⟩) n cap T sz vs w0 h := by
 obtain ⟨g, g2, _, l1, _, c, _⟩ := hc
 exact .inr ⟨b, o, pre, post, rfl, l1 _ _ c, h1, h2, h3, h4⟩
theorem av.sl {b n T sz : Nat} {vs : List Value} {w0 : World} {h : Hp} (hc : av b T vs w0 h) (h2 : vs.length = n * sz) : Sl (some ⟨b, 0, none⟩) n n T sz vs w0 h :=
 .inr ⟨b, 0, [], [], rfl, by simpa [av] using hc, rfl, h2, by simp, Nat.le_refl _⟩
theorem Sl.nil (T sz : Nat) (w0 : World) (h : Hp) : Sl none 0 0 T sz [] w0 h := .inl ⟨rfl, rfl, rfl, rfl⟩
theorem Inv.Du {w0 w : World} {L : List ae} (hi : Inv w0 L w) (T sz : Nat) : Inv w0 (Sl none 0 0 T sz [] :: L) w := hi.sd (Sl.nil T sz _ _)
section
variable {C : Ctx} {Q : QT} {E : Env} {L L' : List ae} {ops : Array Oper} {rest : List Oper} {d : Nat} {ty : TypeId} {pos : String} {aft : Array Edge} {op : Op} {v : Value}
theorem xE (A : ae) (hA : A C.w0 (fun _ => none)) (k : dk C ops rest Q E (A :: L)) : dk C ops rest Q E L := fun a w ha hi => k a w ha (hi.sd hA)
theorem eW {c : Code} (A : ae) (hA : A C.w0 (fun _ => none)) (k : Wp C c Q E (A :: L)) : Wp C c Q E L := fun a w ha hi => k a w ha (hi.sd hA)
theorem vB {c : Code} {A B : ae} {F : List ae} (hr : iK L A F) (hA : ∀ h, A C.w0 h → B C.w0 h) (k : Wp C c Q E (B :: F)) : Wp C c Q E L := fun a w ha hi => k a w ha ((hi.perm hr.perm).imp hA)
theorem jz {b : Builtin} {xs : List Operand} {tys : Array TypeId} {vs : List Value} {a : Act} (hx : xs.toArray.map a.eval = vs.toArray) (d : Option Nat) (g : Option (Nat × Bool)) (w : World) :
  ∃ consts, (execOp a.eval ⟨d, .call ⟨.builtin b, xs.toArray, tys⟩, ty, pos, aft, g⟩).run C.P w = (builtin b tys ty consts vs.toArray).run C.P w := by
 refine ⟨xs.toArray.map fun | .const _ => true | _ => false, ?_⟩
 simp only [execOp, resolve, hx, Sem.run_bind, Sem.run_pure, Result.andThen_ok, invoke]
 rfl
theorem w2 {s x : Operand} {t e sz by_ n m cap cap2 : Nat} {p p2 : Option Addr} {vs ws zs : List Value} {R : ae} {F : List ae}
  (ht : sliceB C.P t = some (e, sz, by_)) (hz : dc C.P e = some zs) (hsz : Nat.ble 1 sz = true) (hby : Nat.ble 1 by_ = true)
  (hs : ay E s = some (.slice p n cap)) (hx : ay E x = some (.slice p2 m cap2))
  (hL : iK L (Sl p n cap e sz vs) F) (hm : R ∈ L) (hR : ∀ h, R C.w0 h → Rd p2 m sz ws C.w0 h) (h1 : ws.all Value.oneCell' = true) (hb : (n + m) * by_ ≤ 140737488355328) :
  lB C (.call ⟨.builtin .append, [s, x].toArray, #[t, t]⟩) ty E L (fun v L' => ∃ p' cap', v = .slice p' (n + m) cap' ∧ L' = Sl p' (n + m) cap' e sz (vs ++ ws) :: F) := by
 intro d pos aft g a w K Qx ha hi hK
 obtain ⟨ht1, i, hi2, rfl, rfl⟩ := je ht
 obtain ⟨i', z, hz1, hz2, hz3, hz4⟩ := iX hz
 rw [hi2] at hz1
 cases hz1
 have hsz := Nat.le_of_ble_eq_true hsz
 have hby := Nat.le_of_ble_eq_true hby
 have hnm : n + m ≤ (n + m) * i.bytes := Nat.le_mul_of_pos_right _ hby
 have hsmall : n + m ≤ 140737488355328 := by omega
 obtain ⟨hwl, hwc⟩ := hi.rd hm hR
 obtain ⟨consts, hrun⟩ := jz (C := C) (ty := ty) (pos := pos) (aft := aft) (b := .append) (xs := [s, x]) (tys := #[t, t]) (vs := [.slice p n cap, .slice p2 m cap2]) (a := a) (by simp [ha.eval hs, ha.eval hx]) d g w
 suffices h : ∃ p' cap' w', (Builtin.append_ #[t, t] ty #[.slice p n cap, .slice p2 m cap2]).run C.P w = .ok (.slice p' (n + m) cap') w' ∧ Inv C.w0 (Sl p' (n + m) cap' e i.size (vs ++ ws) :: F) w' by
  obtain ⟨p', cap', w', hr, hi'⟩ := h
  unfold Oper.wp
  rw [hrun]
  simp only [builtin, Sem.run_bind, hr, Result.andThen_ok, Sem.run_pure]
  exact hK _ _ _ ⟨p', cap', rfl, rfl⟩ hi'
 have hfirst : ∀ w1 : World, (∀ q, w1.cell? q = w.cell? q) → (Builtin.firstCells i.size m (.slice p2 m cap2)).run C.P w1 = .ok ws.toArray w1 := by
  intro w1 hw1
  by_cases hm0 : m = 0
  ·subst hm0
   simp at hwl
   subst hwl
   cases p2 <;> simp [Builtin.firstCells, loadCells, loadCellsFrom]
  ·rcases hwc with hwc | ⟨b2, o2, rfl, hc⟩
   ·exact absurd hwc hm0
   ·exact run_firstCells_some (P := C.P) w1 i.size m _ m cap2 ws hwl (fun j v hj => by rw [hw1, Addr.hJ]; exact hc j v hj)
 have hall : ∀ u ∈ ws, u.oneCell' = true := fun u hu => by simpa using List.all_eq_true.1 h1 u hu
 have hgrow : ∀ (vs0 : List Value), vs0 = vs → n * i.size = vs.length → cap < n + m →
   (∀ w1 : World, (∀ q, w1.cell? q = w.cell? q) → (Builtin.firstCells i.size n (.slice p n cap)).run C.P w1 = .ok vs.toArray w1) →
   Inv C.w0 F w →
   ∃ p' cap' w', (Builtin.append_ #[t, t] ty #[.slice p n cap, .slice p2 m cap2]).run C.P w = .ok (.slice p' (n + m) cap') w' ∧ Inv C.w0 (Sl p' (n + m) cap' e i.size (vs ++ ws) :: F) w' := by
  intro vs0 _ hvl hlt hold hiF
  have hfit : Builtin.nextslicecap (n + m) cap * i.bytes ≤ 281474976710656 := growslice_fits hlt hb
  have h63 : ¬ (9223372036854775807 < ((n : Int) + (m : Int))) := by omega
  have h48 : ¬ (281474976710656 < Builtin.nextslicecap (n + m) cap * i.bytes) := by omega
  have hng : ¬ (n + m ≤ cap) := by omega
  refine ⟨some ⟨w.heap.size, 0, none⟩, grownCap w (n + m) cap e, w.drew.alloc (.cells (vs ++ ws ++ (Builtin.zeroCells z.cells (grownCap w (n + m) cap e - (n + m))).toList).toArray e), ?_, ?_⟩
  ·have e1 := hold w.drew (fun q => by simp)
   have e2 := hfirst w.drew (fun q => by simp)
   have harr : ∀ Z : Array Value, (vs ++ ws ++ Z.toList).toArray = vs.toArray ++ ws.toArray ++ Z := fun Z => by apply Array.ext'; simp
   rw [harr]
   simp [Builtin.append_, run_underlying ht1, sizeOf, typeInfo, zeroValue, hi2, hz2, Builtin.lenOf, hng, h63, h48, Question.forced, e1, e2, newRow, grownCap]
   congr 1
   congr 1
   apply Array.ext'
   simp
  ·have hge := grownCap_ge w (n + m) cap e
   refine Inv.imp ?_ (hiF.drew.alloc e (vs ++ ws ++ (Builtin.zeroCells z.cells (grownCap w (n + m) cap e - (n + m))).toList))
   intro h hc
   refine .inr ⟨_, 0, [], (Builtin.zeroCells z.cells (grownCap w (n + m) cap e - (n + m))).toList, rfl, by simpa [av] using hc, rfl, ?_, ?_, hge⟩
   ·simp [← hvl, hwl, Nat.add_mul]
   ·have : z.cells.size = i.size := by rw [hz3, hz4]; simp
    simp [size_zeroCells, this]
 obtain ⟨zz, hzz, hi1⟩ := (hi.perm hL.perm).pS (Sl.open_ C.w0)
 cases zz with
 | none =>
  obtain ⟨rfl, rfl, rfl, rfl⟩ := hzz
  by_cases hm0 : m = 0
  ·subst hm0
   simp at hwl
   subst hwl
   refine ⟨none, 0, w, ?_, (hi1.Du e i.size)⟩
   have e1 := hfirst w (fun q => rfl)
   simp [Builtin.append_, run_underlying ht1, sizeOf, typeInfo, hi2, Builtin.lenOf, e1]
  ·exact hgrow [] rfl (by simp) (by omega) (fun w1 _ => by simp [Builtin.firstCells]) hi1
 | some zz =>
  obtain ⟨b, o, pre, post⟩ := zz
  obtain ⟨rfl, e1, e2, e3, e4⟩ := hzz
  by_cases hroom : n + m ≤ cap
  ·have hfit : o + n * i.size + ws.length ≤ (pre ++ vs ++ post).length := by
    have : (n + m - n) * i.size ≤ (cap - n) * i.size := Nat.mul_le_mul_right _ (by omega)
    rw [show n + m - n = m by omega] at this
    simp only [List.length_append, e1, e2, hwl]
    omega
   obtain ⟨w', hr, hi'⟩ := kd (C := C) ws (o + n * i.size) 0 _ _ w hall (by simpa using hfit) hi1
   refine ⟨some ⟨b, o, none⟩, cap, w', ?_, ?_⟩
   ·have hf := hfirst w (fun q => rfl)
    simp [Builtin.append_, run_underlying ht1, sizeOf, typeInfo, hi2, Builtin.lenOf, hroom, hf, Addr.hJ, hr]
   ·refine Inv.cls (B := [av b e (pre ++ (vs ++ ws) ++ post.drop ws.length)]) (fun h hc => Sl.mk hc e1 (by simp [e2, hwl, Nat.add_mul]) ?_ hroom) ?_
    ·simp only [List.length_drop, hwl]
     have : (cap - (n + m)) * i.size = (cap - n) * i.size - m * i.size := by rw [← Nat.sub_mul]; congr 1; omega
     omega
    ·have e5 : (pre ++ vs ++ post).take (o + n * i.size + 0) = pre ++ vs := by
      rw [Nat.add_zero]
      exact List.take_left' (by simp [e1, e2])
     have e6 : (pre ++ vs ++ post).drop (o + n * i.size + 0 + ws.length) = post.drop ws.length := by
      rw [Nat.add_zero, show o + n * i.size + ws.length = (pre ++ vs).length + ws.length by simp [e1, e2]]
      rw [← List.drop_drop, List.drop_left]
     rw [e5, e6] at hi'
     simpa [List.append_assoc] using hi'
  ·refine hgrow vs rfl e2.symm (by omega) (fun w1 hw1 => ?_) hi1.tail
   refine run_firstCells_some (P := C.P) w1 i.size n _ n cap vs e2 (fun j v hj => ?_)
   have hlt := (List.getElem?_eq_some_iff.1 hj).1
   rw [hw1, Addr.hJ, Inv.jU hi1]
   rw [List.append_assoc, List.getElem?_append_right (by omega), show o + j - pre.length = j by omega, List.getElem?_append_left hlt]
   exact hj
theorem IY {x y : Operand} {t e sz by_ : Nat} {k1 k2 : IntKind} {i1 i2 : Int} {zs : List Value} (n c : Nat) (e1 : i1 = (n : Int)) (e2 : i2 = (c : Int)) (ht : sliceB C.P t = some (e, sz, by_)) (hz : dc C.P e = some zs) (hsz : Nat.ble 1 sz = true)
  (hx : ay E x = some (.int k1 i1)) (hy : ay E y = some (.int k2 i2)) (hnc : n ≤ c) (h63 : c ≤ 9223372036854775807) (hb : c * by_ ≤ 281474976710656) :
  lB C (.makeSlice t x y) ty E L (fun v L' => ∃ b, v = .slice (some ⟨b, 0, none⟩) n c ∧ L' = Sl (some ⟨b, 0, none⟩) n c e sz ((List.replicate n zs).flatten) :: L) := by
 intro d pos aft g a w K Qx ha hi hK
 subst e1
 subst e2
 obtain ⟨ht1, i, hi2, rfl, rfl⟩ := je ht
 obtain ⟨i', z, hz1, hz2, hz3, hz4⟩ := iX hz
 rw [hi2] at hz1
 cases hz1
 have hsz := Nat.le_of_ble_eq_true hsz
 have hc : ((c * i.bytes : Nat) : Int) = (i.bytes : Int) * (c : Int) := by rw [Int.natCast_mul, Int.mul_comm]
 have hr := run_make (P := C.P) w t e i z ht1 hi2 hz2 k1 k2 n c (by omega) (by omega) (by omega) (by omega)
 have hm : (madeCells z.cells (c * i.size)).toList = (List.replicate c zs).flatten := by
  have hzl : zs.length = i.size := hz4.symm
  apply List.ext_getElem?
  intro j
  by_cases hj : j < c * i.size
  ·have h1 : ((List.replicate c zs).flatten)[j]? = zs[j % i.size]? := by
    have hgen : ∀ (c j : Nat), j < c * zs.length → ((List.replicate c zs).flatten)[j]? = zs[j % zs.length]? := by
     intro c
     induction c with
     | zero => intro j h; simp at h
     | succ c ih =>
      intro j h
      simp only [List.replicate_succ, List.flatten_cons]
      by_cases hj : j < zs.length
      ·rw [List.getElem?_append_left hj, Nat.mod_eq_of_lt hj]
      ·rw [List.getElem?_append_right (by omega), ih _ (by rw [Nat.succ_mul] at h; omega)]
       congr 1
       exact (Nat.mod_eq_sub_mod (by omega)).symm
    have := hgen c j (by rw [hzl]; exact hj)
    rwa [hzl] at this
   rw [h1]
   have hlt : j % i.size < i.size := Nat.mod_lt _ (by omega)
   simp [madeCells, hz3, hj]
   rw [hzl]
   simp [hlt, hzl]
  ·rw [List.getElem?_eq_none, List.getElem?_eq_none]
   ·simp [hzl]; omega
   ·simp [madeCells]; omega
 have hrun : (execOp a.eval ⟨d, .makeSlice t x y, ty, pos, aft, g⟩).run C.P w = .ok (.value (.slice (some ⟨w.heap.size, 0, none⟩) n c)) (w.alloc (.cells ((List.replicate c zs).flatten).toArray e)) := by
  simp only [execOp, ha.eval hx, ha.eval hy, Sem.run_bind, hr, Result.andThen_ok, Sem.run_pure, Int.toNat_natCast]
  congr 2
  rw [← hm]
 unfold Oper.wp
 rw [hrun]
 refine hK _ _ _ ⟨_, rfl, rfl⟩ (Inv.imp (fun h hc => ?_) (hi.alloc e _))
 refine .inr ⟨_, 0, [], (List.replicate (c - n) zs).flatten, rfl, ?_, rfl, by simp [hz4], by simp [hz4], hnc⟩
 have : (List.replicate c zs).flatten = (List.replicate n zs).flatten ++ (List.replicate (c - n) zs).flatten := by
  rw [← List.flatten_append, List.replicate_append_replicate, show n + (c - n) = c by omega]
 simp only [List.nil_append]
 rw [← this]
 exact hc
theorem vS {t e sz by_ len : Nat} {parts : List (Nat × Operand)} {pv : List (Nat × Value)} {zs vs : List Value} (ht : sliceB C.P t = some (e, sz, by_)) (hz : dc C.P e = some zs) (hsz : Nat.ble 1 sz = true) (hsm : Nat.ble (len * sz) 16777216 = true)
  (hp : ∀ a, gf C E a → parts.map (fun p => (p.1, a.eval p.2)) = pv) (hf : Instr.fill (fun i => some (i * sz, sz)) ((List.replicate len zs).flatten.toArray) pv = some vs.toArray) (hl : vs.length = len * sz) :
  lB C (.buildSlice t len parts.toArray) ty E L (fun v L' => ∃ b, v = .slice (some ⟨b, 0, none⟩) len len ∧ L' = Sl (some ⟨b, 0, none⟩) len len e sz vs :: L) := by
 intro d pos aft g a w K Qx ha hi hK
 obtain ⟨ht1, i, hi2, rfl, rfl⟩ := je ht
 obtain ⟨i', z, hz1, hz2, hz3, hz4⟩ := iX hz
 rw [hi2] at hz1
 cases hz1
 have hsz := Nat.le_of_ble_eq_true hsz
 have hsm := Nat.le_of_ble_eq_true hsm
 have hzl : zs.length = i.size := hz4.symm
 have hgen : ∀ (c j : Nat), j < c * zs.length → ((List.replicate c zs).flatten)[j]? = zs[j % zs.length]? := by
  intro c
  induction c with
  | zero => intro j h; simp at h
  | succ c ih =>
   intro j h
   simp only [List.replicate_succ, List.flatten_cons]
   by_cases hj : j < zs.length
   ·rw [List.getElem?_append_left hj, Nat.mod_eq_of_lt hj]
   ·rw [List.getElem?_append_right (by omega), ih _ (by rw [Nat.succ_mul] at h; omega)]
    congr 1
    exact (Nat.mod_eq_sub_mod (by omega)).symm
 have hzero : ∀ zz : Array Value, (len * i.size = 0 → zz = #[]) → (len * i.size ≠ 0 → zz = zs.toArray) → (Array.range (len * i.size)).map (zz[· % zz.size]!) = (List.replicate len zs).flatten.toArray := by
  intro zz h0 h1
  apply Array.ext'
  simp only [Array.toList_map, Array.toList_range]
  apply List.ext_getElem?
  intro j
  by_cases hj : j < len * i.size
  ·rw [h1 (by omega)]
   have hlt : j % i.size < i.size := Nat.mod_lt _ (by omega)
   rw [hgen len j (by rw [hzl]; exact hj), hzl]
   simp [hj, hzl, hlt]
  ·rw [List.getElem?_eq_none, List.getElem?_eq_none]
   ·simp [hzl]; omega
   ·simp; omega
 have hmap : parts.toArray.map (fun x => match x with | (i, x) => (i, a.eval x)) = pv.toArray := by
  rw [← hp a ha]
  simp
 have hrun : (execOp a.eval ⟨d, .buildSlice t len parts.toArray, ty, pos, aft, g⟩).run C.P w = .ok (.value (.slice (some ⟨w.heap.size, 0, none⟩) len len)) (w.alloc (.cells vs.toArray e)) := by
  have h16 : ¬ (len * i.size > 2 ^ 24) := by omega
  simp only [execOp, hmap, Instr.buildSlice, Sem.run_bind, run_underlying ht1, Result.andThen_ok, run_sizeOf hi2, if_neg h16]
  by_cases h0 : len * i.size = 0
  ·have e := hzero #[] (fun _ => rfl) (fun h => absurd h0 h)
   simp only [if_pos h0, Sem.run_bind, Sem.run_pure, Result.andThen_ok, e, hf]
   simp [newRow]
  ·have e := hzero zs.toArray (fun h => absurd h h0) (fun _ => rfl)
   simp only [if_neg h0, Sem.run_bind, Sem.run_pure, Result.andThen_ok, zeroValue, typeInfo, run_program, hi2, hz2, hz3, e, hf]
   simp [newRow]
 unfold Oper.wp
 rw [hrun]
 exact hK _ _ _ ⟨_, rfl, rfl⟩ (Inv.imp (fun h hc => av.sl hc hl) (hi.alloc e vs))
def qm (E : Env) : List (Nat × Operand) → Option (List (Nat × Value))
 | [] => some []
 | (i, x) :: xs => match ay E x with | some v => (match qm E xs with | some vs => some ((i, v) :: vs) | none => none) | none => none
theorem nJ : ∀ {ps : List (Nat × Operand)} {pv : List (Nat × Value)}, qm E ps = some pv → ∀ a, gf C E a → ps.map (fun p => (p.1, a.eval p.2)) = pv
 | [], pv, h, a, ha => by simp only [qm] at h; cases h; rfl
 | (i, x) :: ps, pv, h, a, ha => by
  simp only [qm] at h
  split at h <;> try simp at h
  rename_i v hv
  split at h <;> try simp at h
  rename_i vs hvs
  subst h
  simp [ha.eval hv, nJ hvs a ha]
def fQ (P : Program) (t : TypeId) : Option (List (Nat × Nat)) := match P.underlying t with
 | some (.struct fs) => fs.toList.mapM fun f => match P.info? f.type with | some i => some (f.offset, i.size) | none => none
 | _ => none
theorem eP {t : TypeId} {parts : List (Nat × Operand)} {pv : List (Nat × Value)} {zs cs : List Value} {pl : List (Nat × Nat)} (hpl : fQ C.P t = some pl) (hz : dc C.P t = some zs) (hp : qm E parts = some pv) (hf : Instr.fill (pl.toArray[·]?) zs.toArray pv = some cs.toArray) :
  bX C (.build t parts.toArray) ty E L (.agg cs.toArray) L :=
 dR fun d pos aft g a w ha => by
  obtain ⟨i', z, hz1, hz2, hz3, hz4⟩ := iX hz
  have hmap : parts.toArray.map (fun x => match x with | (i, x) => (i, a.eval x)) = pv.toArray := by
   rw [← nJ hp a ha]; simp
  unfold fQ at hpl
  split at hpl
  ·rename_i fs hfs
   have hplaces : ((fs.mapM fun f => do pure (f.offset, ← sizeOf f.type)) : Sem (Array (Nat × Nat))).run C.P w = .ok pl.toArray w := by
    have hgen : ∀ (l : List Field) (pl : List (Nat × Nat)), l.mapM (fun f => match C.P.info? f.type with | some i => some (f.offset, i.size) | none => none) = some pl →
      ((l.mapM fun f => do pure (f.offset, ← sizeOf f.type)) : Sem (List (Nat × Nat))).run C.P w = .ok pl w := by
     intro l
     induction l with
     | nil => intro pl h; simp at h; subst h; simp
     | cons f l ih =>
      intro pl h
      simp only [List.mapM_cons] at h ⊢
      cases hi : C.P.info? f.type with
      | none => simp [hi] at h
      | some i =>
       simp only [hi] at h
       cases hl : l.mapM (fun f => match C.P.info? f.type with | some i => some (f.offset, i.size) | none => none) with
       | none => simp [hl] at h
       | some pl' =>
        simp [hl] at h
        subst h
        have := ih pl' hl
        simp only [Sem.run_bind, run_sizeOf hi, Result.andThen_ok, Sem.run_pure, this]
    rw [Array.mapM_eq_mapM_toList]
    have := hgen fs.toList pl hpl
    simp only [Sem.run_map, this, Result.andThen_ok]
   simp only [execOp, hmap, Instr.build, Sem.run_bind, zeroValue, typeInfo, run_program, Result.andThen_ok, hz1, hz2, Sem.run_pure, run_underlying hfs, hplaces, hz3]
   simp only [List.getElem?_toArray] at hf ⊢
   simp [hf]
  ·cases hpl
end
end Go.Sl

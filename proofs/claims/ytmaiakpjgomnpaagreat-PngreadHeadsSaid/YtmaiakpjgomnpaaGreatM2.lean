/- Walks of functions that the law reaches, and what they lean on; no conditions. -/
import Derived.Test.YtmaiakpjgomnpaaGreatM1
import Derived.Lib.ConvBytes
set_option linter.unusedVariables false
set_option linter.unusedSimpArgs false
set_option maxRecDepth 100000
namespace Go.Sl
section
variable {C : Ctx} {Q : QT} {E : Env} {L F : List ab} {ops : Array Oper} {rest : List Oper} {d : Nat} {ty : TypeId} {pos : String} {aft : Array Edge}
theorem Ia {x y : Operand} {dt st elem cL b o dn dc sn sc T n : Nat} {p2 : Option Addr} {vs ws pre post : List Value} {R : ab}
    (ht : sliceB C.P dt = some (elem, 1, cL)) (hd : aq E x = some (.slice (some ⟨b, o, none⟩) dn dc)) (hs : aq E y = some (.slice p2 sn sc))
    (hL : fP L (ao b T (pre ++ vs ++ post)) F) (hm : R ∈ F) (hR : ∀ h, R C.w0 h → Rd p2 n 1 ws C.w0 h) (ho : pre.length = o) (hn : n = min sn dn) (hv : vs.length = n) (h1 : ws.all Value.oneCell' = true) :
    kT C (.call ⟨.builtin .copy, [x, y].toArray, #[dt, st]⟩) ty E L (fun v L' => v = .int .i64 n ∧ L' = ao b T (pre ++ ws ++ post) :: F) := by
  intro d pos aft g a w K Qx ha hi hK
  obtain ⟨ht1, i, hi2, hsz, _⟩ := jM ht
  have hi1 := hi.perm hL.perm
  obtain ⟨hwl, hwc⟩ := hi1.tail.rd hm hR
  obtain ⟨consts, hrun⟩ := j9 (C := C) (ty := ty) (pos := pos) (aft := aft) (b := .copy) (xs := [x, y]) (tys := #[dt, st]) (vs := [.slice (some ⟨b, o, none⟩) dn dc, .slice p2 sn sc]) (a := a) (by simp [ha.eval hd, ha.eval hs]) d g w
  suffices h : ∃ w', (Builtin.copy_ #[dt, st] ty #[.slice (some ⟨b, o, none⟩) dn dc, .slice p2 sn sc]).run C.P w = .ok (.int .i64 n) w' ∧ Inv C.w0 (ao b T (pre ++ ws ++ post) :: F) w' by
    obtain ⟨w', hr, hi'⟩ := h
    unfold Oper.wp
    rw [hrun]
    simp only [builtin, Sem.run_bind, hr, Result.andThen_ok, Sem.run_pure]
    exact hK _ _ _ ⟨rfl, rfl⟩ hi'
  have hfirst : (Builtin.firstCells 1 n (.slice p2 sn sc)).run C.P w = .ok ws.toArray w := by
    by_cases hm0 : n = 0
    · subst hm0
      have hw0 : ws = [] := List.length_eq_zero_iff.1 (by omega)
      subst hw0
      cases p2 <;> simp [Builtin.firstCells, loadCells, loadCellsFrom]
    · rcases hwc with hwc | ⟨b2, o2, rfl, hc⟩
      · exact absurd hwc hm0
      · exact run_firstCells_some (P := C.P) w 1 n _ sn sc ws hwl (fun j v hj => by rw [Addr.fY]; exact hc j v hj)
  have hall : ∀ u ∈ ws, u.oneCell' = true := fun u hu => by simpa using List.all_eq_true.1 h1 u hu
  have hwn : ws.length = n := by omega
  have hfit : o + ws.length ≤ (pre ++ vs ++ post).length := by simp only [List.length_append]; omega
  obtain ⟨w', hr, hi'⟩ := jB (C := C) ws o 0 _ _ w hall (by simpa using hfit) hi1
  refine ⟨w', ?_, ?_⟩
  · have hmin : Nat.min sn dn = n := by rw [hn]
    simp [Builtin.copy_, run_underlying ht1, sizeOf, typeInfo, hi2, hsz, Builtin.lenOf, hmin, hfirst, hr, goInt]
  · have e5 : (pre ++ vs ++ post).take (o + 0) = pre := by
      rw [Nat.add_zero, List.append_assoc]
      exact List.take_left' ho
    have e6 : (pre ++ vs ++ post).drop (o + 0 + ws.length) = post := by
      rw [Nat.add_zero, show o + ws.length = (pre ++ vs).length by simp; omega, List.drop_left]
    rw [e5, e6] at hi'
    exact hi'
theorem IL {α : Type} {c : Ec α} {x y : Operand} {dt st cL dn dc sn sc n cap k m cnt : Nat} {p p2 : Option Addr} {l ws : List α}
    (hsz : c.sz = 1) (ht : sliceB C.P dt = some (c.T, c.sz, cL)) (hd : aq E x = some (.slice (eo p k m 1) dn dc)) (hs : aq E y = some (.slice p2 sn sc)) (hL : fP L (Row c p n cap l) F) (H : Has C.w0 F c p2 cnt ws) (hc : cnt = min sn dn) (hk : k + cnt ≤ n) (hkm : k < m) (h0 : 0 < n) :
    kT C (.call ⟨.builtin .copy, [x, y].toArray, #[dt, st]⟩) ty E L (fun v L' => v = .int .i64 cnt ∧ L' = Row c p n cap (l.take k ++ ws ++ l.drop (k + cnt)) :: F) := by
  intro d pos aft g a w K Qx ha hi hK
  have hi1 := hi.perm hL.perm
  have hlen : l.length = n := ((own (w0 := C.w0) (L := Row c p n cap l :: F) an).fact hi1).1
  obtain ⟨R, hm, hR⟩ := H
  have hwl : ws.length = cnt := (Has.fact ⟨R, hm, hR⟩ hi1.tail).1
  obtain ⟨zz, hzz, hi2⟩ := Inv.uS (Sl.open_ C.w0) (hi1.imp (fun h hh => hh.2))
  cases zz with
  | none => obtain ⟨_, h1, _⟩ := hzz; omega
  | some zz =>
    obtain ⟨b, o, pre, post⟩ := zz
    obtain ⟨rfl, e1, e2, e3, e4⟩ := hzz
    have hfl := gx c l
    rw [hsz] at hfl e2 e3
    have hsp : eo (some ⟨b, o, none⟩) k m 1 = some ⟨b, o + k, none⟩ := by
      unfold eo
      rw [if_neg (by omega)]
      simp [Addr.fY]
    have hcells : l.flatMap c.e = (l.take k).flatMap c.e ++ ((l.drop k).take cnt).flatMap c.e ++ (l.drop (k + cnt)).flatMap c.e := by
      rw [← List.flatMap_append, ← List.flatMap_append]
      congr 1
      rw [List.append_assoc, ← List.drop_drop, List.take_append_drop, List.take_append_drop]
    have hi3 : Inv C.w0 (ao b c.T ((pre ++ (l.take k).flatMap c.e) ++ ((l.drop k).take cnt).flatMap c.e ++ ((l.drop (k + cnt)).flatMap c.e ++ post)) :: F) w := by
      have := hi2
      rw [hcells] at this
      simpa [List.append_assoc] using this
    have l1 : ((l.take k).flatMap c.e).length = k := by rw [gx, hsz, List.length_take]; omega
    have l2 : (((l.drop k).take cnt).flatMap c.e).length = cnt := by rw [gx, hsz, List.length_take, List.length_drop]; omega
    refine Ia (C := C) (E := E) (ty := ty) (st := st) (o := o + k) (vs := ((l.drop k).take cnt).flatMap c.e) (ws := ws.flatMap c.e) (n := cnt) (R := R) (by rw [← hsz]; exact ht) (by rw [hd, hsp]) hs fP.head hm (fun h hh => by have := (hR h hh).2; rwa [hsz] at this) (by simp only [List.length_append]; omega) hc l2 (oO c ws) d pos aft g a w K Qx ha hi3 ?_
    rintro v L' w' ⟨e5, e6⟩ hi'
    subst e6
    refine hK v _ w' ⟨e5, rfl⟩ ?_
    refine Inv.cls (B := [ao b c.T (pre ++ (l.take k ++ ws ++ l.drop (k + cnt)).flatMap c.e ++ post)]) (fun h hc2 => ⟨by simp only [List.length_append, List.length_take, List.length_drop]; omega, Sl.mk hc2 e1 (by rw [gx, hsz]; simp only [List.length_append, List.length_take, List.length_drop]; omega) (by rw [hsz]; exact e3) e4⟩) ?_
    simpa [List.flatMap_append, List.append_assoc] using hi'
theorem rY (T : TypeId) (k : IntKind) : ∀ l : List Int, l.flatMap (aW T k).e = l.map (Value.int k)
  | [] => rfl
  | a :: l => by
    have ih := rY T k l
    simp only [List.flatMap_cons, List.map_cons, ih]
    rfl
theorem QQ {w0 : World} {b T T' : Nat} {k : IntKind} {xs : List Int} (hm : ao b T (CA [] k xs []) ∈ L) : Has w0 L (aW T' k) (some ⟨b, 0, none⟩) xs.length xs := by
  refine ⟨_, hm, fun h hh => ⟨rfl, by rw [gx], .inr ⟨b, 0, rfl, fun i v hv => ?_⟩⟩⟩
  obtain ⟨_, hb⟩ : ∃ e, h b = some (.cells (CA [] k xs []).toArray T (Mk e _)) := hh
  unfold oY
  rw [hb]
  rw [rY] at hv
  simpa [CA, ints] using hv
end
end Go.Sl
namespace Go.Sl
section
variable {C : Ctx} {Q : QT} {E : Env} {L F : List ab} {ops : Array Oper} {rest : List Oper} {d : Nat} {ty : TypeId} {pos : String} {aft : Array Edge}
theorem E6 {x : Operand} {src dst T : TypeId} {l : List Int} (hs : C.P.underlying src = some .string) (hd : C.P.underlying dst = some (.slice T)) (he : C.P.underlying T = some (.int .u8)) (hx : aq E x = some (.string (strOfNums l))) (hl : ∀ x ∈ l, 0 ≤ x ∧ x < 256) :
    kT C (.convert src dst x) ty E L (fun v L' => ∃ b c, v = .slice (some ⟨b, 0, none⟩) l.length c ∧ L' = Row (aW T .u8) (some ⟨b, 0, none⟩) l.length c l :: L) := by
  intro d pos aft g a w K Qx ha hi hK
  have hconv := Lib.run_convert_string_bytes (P := C.P) w src dst T (strOfNums l) hs hd he
  have hr : (execOp a.eval ⟨d, .convert src dst x, ty, pos, aft, g⟩).run C.P w = .ok (.value (.slice (some ⟨w.heap.size, 0, none⟩) (strOfNums l).size (grownCap w (strOfNums l).size 0 T))) (Lib.bytesWorld w T (strOfNums l)) := by
    simp only [execOp, ha.eval hx, Sem.run_bind, hconv, Result.andThen_ok, Sem.run_pure]
  unfold Oper.wp
  rw [hr]
  refine hK _ _ _ ⟨w.heap.size, grownCap w (strOfNums l).size 0 T, by rw [jd], rfl⟩ ?_
  have e : (Lib.bytesCells w T (strOfNums l)).toList = l.map (Value.int .u8) ++ List.replicate (grownCap w (strOfNums l).size 0 T - (strOfNums l).size) (.int .u8 0) := by
    unfold Lib.bytesCells
    rw [Array.toList_append, Array.toList_map, Array.toList_replicate, rb l hl]
  have h1 : Inv C.w0 (ao w.heap.size T (Lib.bytesCells w T (strOfNums l)).toList :: L) (w.drew.alloc (.cells (Lib.bytesCells w T (strOfNums l)).toList.toArray T)) := by
    have := hi.drew.alloc T (Lib.bytesCells w T (strOfNums l)).toList
    simpa using this
  rw [Array.toArray_toList] at h1
  have hsz : (w.drew.alloc (.cells (Lib.bytesCells w T (strOfNums l)) T)).heap.size = w.heap.size + 1 := by simp
  have hp := h1.write (w' := Lib.bytesWorld w T (strOfNums l)) (cs' := (Lib.bytesCells w T (strOfNums l)).toList) (e' := true) rfl rfl rfl (by rw [Lib.bytesWorld_size, hsz]; exact Nat.le_refl _) (by rw [Lib.bytesWorld_at_new w T _]; simp [Mk]) (fun k hk hlt => by
    have hlt2 : k < w.heap.size := by omega
    rw [Lib.bytesWorld_at_old w T _ k hlt2]
    show w.heap[k]? = (w.heap.push _)[k]?
    rw [Array.getElem?_push, if_neg (by omega)])
  have hg := grownCap_ge w (strOfNums l).size 0 T
  rw [jd] at hg
  refine hp.imp (fun h hh => ⟨rfl, .inr ⟨w.heap.size, 0, [], List.replicate (grownCap w (strOfNums l).size 0 T - (strOfNums l).size) (.int .u8 0), rfl, ?_, rfl, by rw [gx], by rw [List.length_replicate, jd]; exact Nat.le_of_eq (Nat.mul_one _), by rw [jd]; exact hg⟩⟩)
  rw [List.nil_append, show l.flatMap (aW T .u8).e = l.map (Value.int .u8) from yf l, ← e]
  exact hh
theorem w3 {x : Operand} {src dst T : TypeId} {l : List Int} (hs : C.P.underlying src = some .string) (hd : C.P.underlying dst = some (.slice T)) (he : C.P.underlying T = some (.int .u8)) (hx : aq E x = some (.string (strOfNums l))) (hl : ∀ x ∈ l, 0 ≤ x ∧ x < 256) (hn : Nat.blt d C.n = true)
    (k : ∀ b c, dM C ops rest Q ((d, .slice (some ⟨b, 0, none⟩) l.length c) :: E) (Row (aW T .u8) (some ⟨b, 0, none⟩) l.length c l :: L)) : dM C ops (⟨some d, .convert src dst x, ty, pos, aft, none⟩ :: rest) Q E L :=
  oK (E6 hs hd he hx hl) hn fun v L' ⟨b, c, e1, e2⟩ => by subst e1; subst e2; exact k b c
theorem wE {x : Operand} {src dst T : TypeId} {l : List Int} (hs : C.P.underlying src = some .string) (hd : C.P.underlying dst = some (.slice T)) (he : C.P.underlying T = some (.int .u8)) (hx : aq E x = some (.string (strOfNums l))) (hl : ∀ x ∈ l, 0 ≤ x ∧ x < 256) (hn : Nat.blt d C.n = true)
    (k : ∀ b c, dM C ops rest Q ((d, .slice (some ⟨b, 0, none⟩) l.length c) :: E) (aS (aW T .u8) (some ⟨b, 0, none⟩) l.length l :: L)) : dM C ops (⟨some d, .convert src dst x, ty, pos, aft, none⟩ :: rest) Q E L :=
  w3 hs hd he hx hl hn fun b c => MC .head (fun h hh => ⟨hh.1, hh.2.rd⟩) (k b c)
theorem tl {x : Operand} {t : TypeId} {k : IntKind} {n r : Int} (hk : k.signed = false) (h : aq E x = some (.int k n)) (e : k.wrap ((BitVec.ofInt k.bits k.max ^^^ BitVec.ofInt k.bits n).toNat : Int) = r) : cF C (.unOp .xor t x) ty E L (.int k r) L := dQ fun d pos aft g a w ha => by
  rw [← e]
  simp [execOp, ha.eval h, Op.unary, Op.intBits, hk]
theorem rA {x y : Operand} {t : TypeId} {l : List Int} {k : IntKind} {i : Int} (n : Nat) (ht : C.P.underlying t = some .string) (hx : aq E x = some (.string (strOfNums l))) (hy : aq E y = some (.int k i)) (hl : ∀ x ∈ l, 0 ≤ x ∧ x < 256) (hi : i = (n : Int)) (hn : n < l.length) : cF C (.index t x y) ty E L (.int .u8 (l.getD n 0)) L := dQ fun d pos aft g a w ha => by
  subst hi
  have hs : (strOfNums l)[n]? = some (UInt8.ofNat (l.getD n 0).toNat) := by
    have h1 : n < (strOfNums l).size := by rw [jd]; exact hn
    rw [getElem?_pos (strOfNums l) n h1]
    congr 1
    simp [strOfNums, ByteArray.getElem_eq_getElem_data, hn]
  have hb : (((UInt8.ofNat (l.getD n 0).toNat).toNat : Nat) : Int) = l.getD n 0 := by
    have hm := hl (l.getD n 0) (by rw [List.getD_eq_getElem?_getD, List.getElem?_eq_getElem hn]; exact List.getElem_mem hn)
    rw [UInt8.toNat_ofNat', Nat.mod_eq_of_lt (by omega)]
    omega
  simp [execOp, ha.eval hx, ha.eval hy, Instr.index, asIntOf, run_underlying ht, hs]
  simpa using hb
end
end Go.Sl
namespace Go.Sl
section
variable {C : Ctx} {E : Env} {L : List ab} {ty : TypeId} {α : Type}
theorem It {x y : Operand} {t n : Nat} {k : IntKind} {cs : Array Value} {iv : Int} {v : Value} (c : Ec α) (l : List α) (i : Nat) (ht : jS C.P t = some (n, c.T, c.sz)) (ha : gZ C.P c.T = some c.sz) (hx : aq E x = some (.agg cs)) (hc : cs.toList = l.flatMap c.e) (hy : aq E y = some (.int k iv)) (hi : iv = (i : Int)) (hn : i < n) (hl : i < l.length) (hv : .agg (c.e (c.g l (i : Int))).toArray = v) : cF C (.index t x y) ty E L v L :=
  dQ fun d pos aft g a w ha' => by
    subst hv; subst hi
    obtain ⟨h1, i', h2, h3⟩ := o6 ht
    obtain ⟨g1, g2⟩ := lZ ha w
    have hlt : (i : Int) < (n : Int) := by omega
    have e : cs.extract (i * c.sz) (i * c.sz + c.sz) = (c.e (c.g l (i : Int))).toArray := by
      apply Array.ext'
      rw [Array.toList_extract, hc]
      have := G7 c l i hl
      rw [c.vj hl]
      simpa [List.extract, Nat.add_sub_cancel_left] using this
    simp [execOp, ha'.eval hx, ha'.eval hy, Instr.index, asIntOf, run_underlying h1, run_sizeOf h2, h3, hlt, hn, part, g1, e]
end
end Go.Sl
namespace Go.Sl
section
variable {C : Ctx} {Q : QT} {E : Env} {L F G : List ab} {ops : Array Oper} {rest : List Oper} {ty : TypeId} {pos : String} {aft : Array Edge}
theorem AW {x : Operand} {t n e sz b o : Nat} (ht : jS C.P t = some (n, e, sz)) (hx : aq E x = some (.pointer (some ⟨b, o, none⟩))) : cF C (.slice t x none none none) ty E L (.slice (some ⟨b, o, none⟩) n n) L :=
  dQ fun d pos aft g a w ha => by
    obtain ⟨e1, i, e2, e3⟩ := o6 ht
    simp [execOp, ha.eval hx, Instr.sliceAt, run_underlying e1, Instr.sureAddr, Instr.sliceBounds, run_sizeOf e2, e3, Addr.fY]
theorem EX {d : Option Nat} {op : Op} {u : Value} {M : List ab} (h : kT C op ty E L (fun v L' => v = u ∧ L' = M)) (hp : M.Perm G) : Step C ops ⟨d, op, ty, pos, aft, none⟩ E L (fun v L' => v = u ∧ L'.Perm G) :=
  uq fun d pos aft g a w K Q ha hi hK => h d pos aft g a w K Q ha hi fun v L' w' ⟨e1, e2⟩ hi' => hK v L' w' ⟨e1, e2 ▸ hp⟩ hi'
theorem gY {α : Type} {c : Ec α} {w0 w : World} {p : Option Addr} {n cap : Nat} {l : List α} (hi : Inv w0 L w) (hm : Row c p n cap l ∈ L) : n ≤ cap := by
  obtain ⟨F, hF⟩ := hi.mem hm
  have h2 := hF.imp (fun h hh => hh.2)
  exact (DR h2 (List.mem_cons_self ..)).2.1
end
end Go.Sl
namespace Go.Sl
section
variable {C : Ctx} {ops : Array Oper} {E : Env} {L F : List ab} {d : Option Nat} {ty : TypeId} {pos : String} {aft : Array Edge}
theorem sB {α : Type} (g : α → Value) (pr : Value → α) (A : α → List ab) {f : FuncId} {args : List Operand} {tys : Array TypeId} {vs : List Value} {Pre : List ab} (hS : aK C.P f vs Pre (aR fun v G => ∃ a, v = g a ∧ G = A a)) (hp : ∀ a, pr (g a) = a) (hb : aJ C.P f = true) (hE : iL E args = some vs) (hL : fL L Pre F) :
    Step C ops ⟨d, .call ⟨.value (.func f), args.toArray, tys⟩, ty, pos, aft, none⟩ E L (fun v L' => v = g (pr v) ∧ True ∧ L'.Perm (A (pr v) ++ F)) :=
  qT hS hb hE hL fun v G ⟨a, e1, e2⟩ => by subst e1; subst e2; rw [hp]; exact ⟨rfl, trivial, .refl _⟩
def jI : Value → Option Addr × Nat | .tuple ⟨[.slice p _ c, _]⟩ => (p, c) | _ => (none, 0)
def uX : Value → Nat | .tuple ⟨[.agg ⟨[_, _, .slice (some a) _ _]⟩, _]⟩ => a.block | _ => 0
theorem Ax {T : TypeId} {s x : Operand} {t tS cL n cap : Nat} {p : Option Addr} {l l2 : List Int} {zs : List Value}
    (ht : sliceB C.P t = some (T, 1, cL)) (hS : C.P.underlying tS = some .string) (hz : dH C.P T = some zs) (hby : Nat.ble 1 cL = true)
    (hs : aq E s = some (.slice p n cap)) (hx : aq E x = some (.string (strOfNums l2))) (hl2 : ∀ x ∈ l2, 0 ≤ x ∧ x < 256) (hL : fP L (Row (aW T .u8) p n cap l) F) (hb : (n + l2.length) * cL ≤ 140737488355328) :
    kT C (.call ⟨.builtin .append, [s, x].toArray, #[t, tS]⟩) ty E L (fun v L' => ∃ p' cap', v = .slice p' (n + l2.length) cap' ∧ L' = Row (aW T .u8) p' (n + l2.length) cap' (l ++ l2) :: F) := fun d pos aft g a w K Qx ha hi hK => by
  have hl1 : l.length = n := ((own (w0 := C.w0) (L := Row (aW T .u8) p n cap l :: F) an).fact (hi.perm hL.perm)).1
  have hi2 : Inv C.w0 (Sl p n cap T 1 (l.flatMap (aW T .u8).e) :: F) w := (hi.perm hL.perm).imp (fun h hh => hh.2)
  refine Ct (C := C) (E := E) (ty := ty) (vs := l.flatMap (aW T .u8).e) (ws := l2.map (Value.int .u8)) ht hS hz rfl hby hs hx (rb l2 hl2) (jd l2) fP.head hb d pos aft g a w K Qx ha hi2 ?_
  rintro v L' w' ⟨p', cap', e1, e2⟩ hi'
  subst e2
  exact hK v _ w' ⟨p', cap', e1, rfl⟩ (hi'.imp (fun h hh => ⟨by simp [hl1], by rw [List.flatMap_append, show l2.flatMap (aW T .u8).e = l2.map (Value.int .u8) from yf l2]; exact hh⟩))
end
end Go.Sl
namespace Go.Sl
def num : Nat → List Value → List (Nat × Value)
  | _, [] => []
  | i, v :: vs => (i, v) :: num (i + 1) vs
theorem wj (k : IntKind) : ∀ (l : List Int) (i : Nat) (cs : List Value), i + l.length ≤ cs.length → Instr.fill (fun i => some (i * 1, 1)) cs.toArray (num i (l.map (Value.int k))) = some (cs.take i ++ l.map (Value.int k) ++ cs.drop (i + l.length)).toArray
  | [], i, cs, h => by simp [num, Instr.fill]
  | x :: l, i, cs, h => by
    simp only [List.length_cons] at h
    have hi : i < cs.length := by omega
    have e : (cs.set i (.int k x)).take (i + 1) = cs.take i ++ [.int k x] := by
      rw [List.take_add_one, List.take_set_of_le (Nat.le_refl _)]
      simp [hi]
    have e2 : (cs.set i (.int k x)).drop (i + 1 + l.length) = cs.drop (i + (l.length + 1)) := by
      rw [List.drop_set_of_lt (by omega)]; congr 1; omega
    have ih := wj k l (i + 1) (cs.set i (.int k x)) (by rw [List.length_set]; omega)
    rw [e, e2] at ih
    have hst : ∀ r, Instr.fill (fun i => some (i * 1, 1)) cs.toArray ((i, .int k x) :: r) = Instr.fill (fun i => some (i * 1, 1)) (cs.set i (.int k x)).toArray r := fun r => by
      rw [Instr.fill]
      simp [Value.cells]
      omega
    rw [List.map_cons, num, hst, ih]
    simp
section
variable {C : Ctx} {Q : QT} {E : Env} {L : List ab} {ops : Array Oper} {rest : List Oper} {d : Nat} {ty : TypeId} {pos : String} {aft : Array Edge}
theorem Er {T : TypeId} {k : IntKind} {t cL len : Nat} {parts : List (Nat × Operand)} {z : Value} (l : List Int) (ht : sliceB C.P t = some (T, 1, cL)) (hz : dH C.P T = some [z]) (hsm : Nat.ble len 16777216 = true)
    (hp : oF E parts = some (num 0 (l.map (Value.int k)))) (hl : l.length = len) (hd : Nat.blt d C.n = true)
    (kk : ∀ b, dM C ops rest Q ((d, .slice (some ⟨b, 0, none⟩) len len) :: E) (Row (aW T k) (some ⟨b, 0, none⟩) len len l :: L)) : dM C ops (⟨some d, .buildSlice t len parts.toArray, ty, pos, aft, none⟩ :: rest) Q E L := by
  refine ef (aW T k) l ht hz rfl (by rw [show len * (aW T k).sz = len from Nat.mul_one _]; exact hsm) hp ?_ hl hd kk
  have hn : ((List.replicate len [z]).flatten).length = len := by simp
  have := wj k l 0 ((List.replicate len [z]).flatten) (by rw [hn]; omega)
  rw [Nat.zero_add, List.drop_eq_nil_of_le (by rw [hn]; omega), List.take_zero, List.nil_append, List.append_nil] at this
  rw [show l.flatMap (aW T k).e = l.map (Value.int k) from rY T k l]
  exact this
end
end Go.Sl
namespace Go.dD
variable {α : Type}
structure Rl (key : α → Int) (d : α) (l l' : List α) (a b : Nat) : Prop where
  len : l'.length = l.length
  out : ∀ i, i < a ∨ b ≤ i → l'.getD i d = l.getD i d
  mem : ∀ i, a ≤ i → i < b → ∃ j, a ≤ j ∧ j < b ∧ l'.getD i d = l.getD j d
  same : ∀ c, l'.filter (fun x => decide (key x = c)) = l.filter (fun x => decide (key x = c))
def Sd (key : α → Int) (d : α) (l : List α) (a b : Nat) : Prop := ∀ i j, a ≤ i → i ≤ j → j < b → key (l.getD i d) ≤ key (l.getD j d)
variable {key : α → Int} {d : α}
theorem Rl.refl (l : List α) (a b : Nat) : Rl key d l l a b := ⟨rfl, fun _ _ => rfl, fun i h1 h2 => ⟨i, h1, h2, rfl⟩, fun _ => rfl⟩
theorem Rl.trans {l1 l2 l3 : List α} {a b : Nat} (h : Rl key d l1 l2 a b) (k : Rl key d l2 l3 a b) : Rl key d l1 l3 a b :=
  ⟨k.len.trans h.len, fun i hi => (k.out i hi).trans (h.out i hi), fun i h1 h2 => by
    obtain ⟨j, j1, j2, j3⟩ := k.mem i h1 h2
    obtain ⟨m, m1, m2, m3⟩ := h.mem j j1 j2
    exact ⟨m, m1, m2, j3.trans m3⟩, fun c => (k.same c).trans (h.same c)⟩
theorem Rl.wide {l l' : List α} {a b a' b' : Nat} (h : Rl key d l l' a b) (h1 : a' ≤ a) (h2 : b ≤ b') : Rl key d l l' a' b' :=
  ⟨h.len, fun i hi => h.out i (by omega), fun i i1 i2 => by
    by_cases hi : a ≤ i ∧ i < b
    · obtain ⟨j, j1, j2, j3⟩ := h.mem i hi.1 hi.2
      exact ⟨j, by omega, by omega, j3⟩
    · exact ⟨i, i1, i2, h.out i (by omega)⟩, h.same⟩
theorem Sd.congr {l l' : List α} {a b : Nat} (h : Sd key d l a b) (e : ∀ i, a ≤ i → i < b → l'.getD i d = l.getD i d) : Sd key d l' a b := fun i j h1 h2 h3 => by
  rw [e i h1 (by omega), e j (by omega) h3]; exact h i j h1 h2 h3
theorem Sd.small {l : List α} {a b : Nat} (h : b ≤ a + 1) : Sd key d l a b := fun i j h1 h2 h3 => by
  obtain rfl : i = j := by omega
  exact Int.le_refl _
theorem Sd.sub {l : List α} {a b a' b' : Nat} (h : Sd key d l a b) (h1 : a ≤ a') (h2 : b' ≤ b) : Sd key d l a' b' := fun i j h3 h4 h5 => h i j (by omega) h4 (by omega)
theorem Sd.join {l : List α} {a m b : Nat} (h1 : Sd key d l a m) (h2 : Sd key d l m b) (h : ∀ i j, a ≤ i → i < m → m ≤ j → j < b → key (l.getD i d) ≤ key (l.getD j d)) : Sd key d l a b := fun i j i1 i2 i3 => by
  by_cases hj : j < m
  · exact h1 i j i1 i2 hj
  · by_cases hi : i < m
    · exact h i j i1 hi (by omega) i3
    · exact h2 i j (by omega) i2 i3
theorem Md (l : List α) (i : Nat) (h : i + 1 < l.length) : l = l.take i ++ (l.getD i d :: l.getD (i + 1) d :: l.drop (i + 2)) := by
  conv => lhs; rw [← List.take_append_drop i l]
  congr 1
  rw [List.drop_eq_getElem_cons (by omega), List.drop_eq_getElem_cons h]
  simp [List.getD_eq_getElem?_getD, show i < l.length by omega, h]
theorem AR (l : List α) (i : Nat) (h : i + 1 < l.length) : (l.set i (l.getD (i + 1) d)).set (i + 1) (l.getD i d) = l.take i ++ (l.getD (i + 1) d :: l.getD i d :: l.drop (i + 2)) := by
  apply List.ext_getElem?
  intro j
  have hl : (l.take i).length = i := by simp; omega
  by_cases h1 : j < i
  · rw [List.getElem?_append_left (by omega), List.getElem?_set_ne (by omega), List.getElem?_set_ne (by omega)]
    simp [List.getElem?_take, h1]
  · rw [List.getElem?_append_right (by omega), hl]
    by_cases h2 : j = i
    · subst h2
      simp [List.getElem?_set, show j < l.length by omega]
    · by_cases h3 : j = i + 1
      · subst h3
        simp [List.getElem?_set, h]
      · rw [List.getElem?_set_ne (by omega), List.getElem?_set_ne (by omega)]
        obtain ⟨k, rfl⟩ : ∃ k, j = i + 2 + k := ⟨j - (i + 2), by omega⟩
        rw [show i + 2 + k - i = k + 2 by omega]
        simp [List.getElem?_drop]
theorem swap_comm (l : List α) (i : Nat) (x y : α) : (l.set (i + 1) x).set i y = (l.set i y).set (i + 1) x := by
  rw [List.set_comm]; omega
theorem Rl.swap {l : List α} {a b i : Nat} (h1 : a ≤ i) (h2 : i + 1 < b) (hl : i + 1 < l.length) (hk : key (l.getD i d) ≠ key (l.getD (i + 1) d)) : Rl key d l ((l.set i (l.getD (i + 1) d)).set (i + 1) (l.getD i d)) a b := by
  refine ⟨by simp, fun j hj => ?_, fun j j1 j2 => ?_, fun c => ?_⟩
  · simp only [List.getD_eq_getElem?_getD]
    rw [List.getElem?_set_ne (by omega), List.getElem?_set_ne (by omega)]
  · by_cases e1 : j = i
    · subst e1
      refine ⟨j + 1, by omega, h2, ?_⟩
      simp only [List.getD_eq_getElem?_getD]
      rw [List.getElem?_set_ne (by omega)]
      simp [List.getElem?_set, show j < l.length by omega]
    · by_cases e2 : j = i + 1
      · subst e2
        refine ⟨i, h1, by omega, ?_⟩
        simp only [List.getD_eq_getElem?_getD]
        simp [List.getElem?_set, hl]
      · refine ⟨j, j1, j2, ?_⟩
        simp only [List.getD_eq_getElem?_getD]
        rw [List.getElem?_set_ne (by omega), List.getElem?_set_ne (by omega)]
  · rw [AR l i hl]
    conv => rhs; rw [Md (d := d) l i hl]
    simp only [List.filter_append, List.filter_cons]
    congr 1
    generalize l.getD i d = x at hk
    generalize l.getD (i + 1) d = y at hk
    by_cases k1 : key x = c
    · have k2 : ¬ key y = c := fun e => hk (k1.trans e.symm)
      simp [k1, k2]
    · simp [k1]
theorem cK {x y : List α} {i : Nat} (h : i < x.length) : (x ++ y).getD i d = x.getD i d := by
  simp only [List.getD_eq_getElem?_getD, List.getElem?_append_left h]
theorem ea {x y : List α} {i : Nat} (h : x.length ≤ i) : (x ++ y).getD i d = y.getD (i - x.length) d := by
  simp only [List.getD_eq_getElem?_getD, List.getElem?_append_right h]
theorem jj {x : List α} {i : Nat} (h : i < x.length) : x.getD i d ∈ x := by
  simp [List.getD_eq_getElem?_getD, h]
theorem Rl.rotate {P X Y S : List α} {a b : Nat} (ha : a ≤ P.length) (hb : P.length + X.length + Y.length ≤ b) (hk : ∀ x ∈ X, ∀ y ∈ Y, key x ≠ key y) : Rl key d (P ++ X ++ Y ++ S) (P ++ Y ++ X ++ S) a b := by
  have hin : ∀ i, P.length ≤ i → i < P.length + X.length + Y.length → ∃ j, P.length ≤ j ∧ j < P.length + X.length + Y.length ∧ (P ++ Y ++ X ++ S).getD i d = (P ++ X ++ Y ++ S).getD j d := by
    intro i i1 i2
    by_cases h1 : i < P.length + Y.length
    · refine ⟨i + X.length, by omega, by omega, ?_⟩
      rw [cK (by simp; omega), cK (by simp; omega), ea i1, cK (by simp; omega), ea (by simp; omega)]
      congr 1
      simp; omega
    · refine ⟨i - Y.length, by omega, by omega, ?_⟩
      rw [cK (by simp; omega), ea (by simp; omega), cK (by simp; omega), cK (by simp; omega), ea (by omega)]
      congr 1
      simp; omega
  have hout : ∀ i, i < P.length ∨ P.length + X.length + Y.length ≤ i → (P ++ Y ++ X ++ S).getD i d = (P ++ X ++ Y ++ S).getD i d := by
    intro i hi
    rcases hi with hi | hi
    · rw [cK (by simp; omega), cK (by simp; omega), cK hi, cK (by simp; omega), cK (by simp; omega), cK hi]
    · rw [ea (by simp; omega), ea (by simp; omega)]
      congr 1
      simp; omega
  refine ⟨by simp; omega, fun i hi => hout i (by omega), fun i i1 i2 => ?_, fun c => ?_⟩
  · by_cases hi : P.length ≤ i ∧ i < P.length + X.length + Y.length
    · obtain ⟨j, j1, j2, j3⟩ := hin i hi.1 hi.2
      exact ⟨j, by omega, by omega, j3⟩
    · exact ⟨i, i1, i2, hout i (by omega)⟩
  · simp only [List.filter_append]
    have : Y.filter (fun x => decide (key x = c)) ++ X.filter (fun x => decide (key x = c)) = X.filter (fun x => decide (key x = c)) ++ Y.filter (fun x => decide (key x = c)) := by
      by_cases hx : ∃ x ∈ X, key x = c
      · obtain ⟨x, x1, x2⟩ := hx
        have : Y.filter (fun x => decide (key x = c)) = [] := by
          rw [List.filter_eq_nil_iff]
          intro y hy
          simp
          intro e
          exact hk x x1 y hy (x2.trans e.symm)
        rw [this]; simp
      · have : X.filter (fun x => decide (key x = c)) = [] := by
          rw [List.filter_eq_nil_iff]
          intro y hy
          simp
          intro e
          exact hx ⟨y, hy, e⟩
        rw [this]; simp
    rw [List.append_assoc (P.filter _), this]
    simp [List.append_assoc]
theorem blocks (l : List α) (a m b : Nat) (h1 : a ≤ m) (h2 : m ≤ b) (h3 : b ≤ l.length) : ∃ P X Y S, l = P ++ X ++ Y ++ S ∧ P.length = a ∧ X.length = m - a ∧ Y.length = b - m ∧
    (∀ x ∈ X, ∃ i, a ≤ i ∧ i < m ∧ x = l.getD i d) ∧ (∀ y ∈ Y, ∃ i, m ≤ i ∧ i < b ∧ y = l.getD i d) := by
  refine ⟨l.take a, (l.drop a).take (m - a), (l.drop m).take (b - m), l.drop b, ?_, by simp; omega, by simp; omega, by simp; omega, ?_, ?_⟩
  · have e1 : l.take a ++ (l.drop a).take (m - a) = l.take m := by
      have := List.take_add (l := l) (i := a) (j := m - a)
      rw [show a + (m - a) = m by omega] at this
      exact this.symm
    have e2 : l.take m ++ (l.drop m).take (b - m) = l.take b := by
      have := List.take_add (l := l) (i := m) (j := b - m)
      rw [show m + (b - m) = b by omega] at this
      exact this.symm
    rw [e1, e2, List.take_append_drop]
  · intro x hx
    obtain ⟨i, hi⟩ := List.getElem?_of_mem hx
    have hlt := (List.getElem?_eq_some_iff.1 hi).1
    simp at hlt
    rw [List.getElem?_take_of_lt (by omega), List.getElem?_drop] at hi
    exact ⟨a + i, by omega, by omega, by simp [List.getD_eq_getElem?_getD, hi]⟩
  · intro x hx
    obtain ⟨i, hi⟩ := List.getElem?_of_mem hx
    have hlt := (List.getElem?_eq_some_iff.1 hi).1
    simp at hlt
    rw [List.getElem?_take_of_lt (by omega), List.getElem?_drop] at hi
    exact ⟨m + i, by omega, by omega, by simp [List.getD_eq_getElem?_getD, hi]⟩
theorem q9 {P X Y S : List α} {i : Nat} : (P ++ Y ++ X ++ S).getD i d = (P ++ X ++ Y ++ S).getD (if i < P.length then i else if i < P.length + Y.length then i + X.length else if i < P.length + X.length + Y.length then i - Y.length else i) d := by
  split
  · rename_i hi
    rw [cK (by simp; omega), cK (by simp; omega), cK hi, cK (by simp; omega), cK (by simp; omega), cK hi]
  · split
    · rw [cK (by simp; omega), cK (by simp; omega), ea (by omega), cK (by simp; omega), ea (by simp; omega)]
      congr 1
      simp; omega
    · split
      · rw [cK (by simp; omega), ea (by simp; omega), cK (by simp; omega), cK (by simp; omega), ea (by omega)]
        congr 1
        simp; omega
      · rw [ea (by simp; omega), ea (by simp; omega)]
        congr 1
        simp; omega
theorem x8 {P A B C S : List α} {k : Nat} (hA : k < A.length) (hC : C.length = A.length) :
    ((P ++ (C.take k ++ A.drop k) ++ B ++ (A.take k ++ C.drop k) ++ S).set (P.length + k) ((P ++ (C.take k ++ A.drop k) ++ B ++ (A.take k ++ C.drop k) ++ S).getD (P.length + A.length + B.length + k) d)).set (P.length + A.length + B.length + k) ((P ++ (C.take k ++ A.drop k) ++ B ++ (A.take k ++ C.drop k) ++ S).getD (P.length + k) d)
      = P ++ (C.take (k + 1) ++ A.drop (k + 1)) ++ B ++ (A.take (k + 1) ++ C.drop (k + 1)) ++ S := by
  have e1 : (P ++ (C.take k ++ A.drop k) ++ B ++ (A.take k ++ C.drop k) ++ S).getD (P.length + A.length + B.length + k) d = C[k] := by
    rw [cK (by simp; omega), ea (by simp; omega), ea (by simp; omega)]
    simp only [List.getD_eq_getElem?_getD, List.getElem?_drop]
    have : k + (P.length + A.length + B.length + k - (P ++ (C.take k ++ A.drop k) ++ B).length - (A.take k).length) = k := by simp; omega
    rw [this, List.getElem?_eq_getElem (by omega)]; rfl
  have e2 : (P ++ (C.take k ++ A.drop k) ++ B ++ (A.take k ++ C.drop k) ++ S).getD (P.length + k) d = A[k] := by
    rw [cK (by simp; omega), cK (by simp; omega), cK (by simp; omega), ea (by omega), ea (by simp; omega)]
    simp only [List.getD_eq_getElem?_getD, List.getElem?_drop]
    have : k + (P.length + k - P.length - (C.take k).length) = k := by simp; omega
    rw [this, List.getElem?_eq_getElem hA]; rfl
  rw [e1, e2]
  rw [show A.drop k = A[k] :: A.drop (k + 1) from List.drop_eq_getElem_cons hA, show C.drop k = C[k] :: C.drop (k + 1) from List.drop_eq_getElem_cons (by omega)]
  rw [List.take_succ_eq_append_getElem hA, List.take_succ_eq_append_getElem (show k < C.length by omega)]
  have f1 : ∀ (V : List α) (x : α), (P ++ (C.take k ++ A[k] :: A.drop (k + 1)) ++ V).set (P.length + k) x = P ++ (C.take k ++ x :: A.drop (k + 1)) ++ V := by
    intro V x
    rw [List.set_append_left _ _ (by simp; omega), List.set_append_right _ _ (by omega), List.set_append_right _ _ (by simp; omega)]
    congr 3
    have : P.length + k - P.length - (C.take k).length = 0 := by simp; omega
    rw [this]; rfl
  have f2 : ∀ (U : List α) (x : α), U.length = A.length → (P ++ U ++ B ++ (A.take k ++ C[k] :: C.drop (k + 1)) ++ S).set (P.length + A.length + B.length + k) x = P ++ U ++ B ++ (A.take k ++ x :: C.drop (k + 1)) ++ S := by
    intro U x hU
    rw [List.set_append_left _ _ (by simp; omega), List.set_append_right _ _ (by simp; omega), List.set_append_right _ _ (by simp; omega)]
    congr 3
    have : P.length + A.length + B.length + k - (P ++ U ++ B).length - (A.take k).length = 0 := by simp; omega
    rw [this]; rfl
  have g := f1 (B ++ (A.take k ++ C[k] :: C.drop (k + 1)) ++ S) C[k]
  simp only [List.append_assoc] at g f2 ⊢
  rw [g]
  have h := f2 (C.take k ++ C[k] :: A.drop (k + 1)) A[k] (by simp; omega)
  simp only [List.append_assoc] at h
  rw [h]
  simp
theorem DY {l : List α} {a m b bA s : Nat} (hml : b ≤ l.length) (ham : a < m) (hmb : m < b) (hmid : bA = (a + b) / 2) (h1 : Sd key d l a m) (h2 : Sd key d l m b)
    (hs0 : (if bA < m then bA + m - b else a) ≤ s) (hs1 : s ≤ (if bA < m then bA else m))
    (hy : (if bA < m then bA + m - b else a) < s → key (l.getD (s - 1) d) ≤ key (l.getD (bA + m - 1 - (s - 1)) d))
    (hn : s < (if bA < m then bA else m) → key (l.getD (bA + m - 1 - s) d) < key (l.getD s d)) :
    a ≤ s ∧ s ≤ bA ∧ s ≤ m ∧ m ≤ bA + m - s ∧ bA ≤ bA + m - s ∧ bA + m - s ≤ b ∧
    (s < m → m < bA + m - s → ∀ i j, s ≤ i → i < m → m ≤ j → j < bA + m - s → key (l.getD j d) < key (l.getD i d)) ∧
    (∀ i j, a ≤ i → i < s → bA + m - s ≤ j → j < b → key (l.getD i d) ≤ key (l.getD j d)) := by
  refine ⟨by split at hs0 <;> omega, by split at hs1 <;> omega, by split at hs1 <;> omega, by split at hs1 <;> omega, by split at hs1 <;> omega, by split at hs0 <;> omega, ?_, ?_⟩
  · intro h3 h4 i j i1 i2 j1 j2
    have hlt : s < (if bA < m then bA else m) := by split <;> omega
    have h5 := hn hlt
    have h6 := h1 s i (by split at hs0 <;> omega) i1 i2
    have h7 := h2 j (bA + m - 1 - s) j1 (by omega) (by split at hs0 <;> omega)
    omega
  · intro i j i1 i2 j1 j2
    have hlt : (if bA < m then bA + m - b else a) < s := by
      rcases Nat.lt_or_ge (if bA < m then bA + m - b else a) s with h | h
      · exact h
      · exfalso; split at h <;> omega
    have h5 := hy hlt
    have h6 := h1 i (s - 1) i1 (by omega) (by split at hs1 <;> omega)
    have h7 := h2 (bA + m - 1 - (s - 1)) j (by split at hs1 <;> omega) (by omega) j2
    omega
theorem unique {l1 l2 : List α} (h1 : Sd key d l1 0 l1.length) (h2 : Sd key d l2 0 l2.length) (h : ∀ c, l1.filter (fun x => decide (key x = c)) = l2.filter (fun x => decide (key x = c))) : l1 = l2 := by
  induction l1 generalizing l2 with
  | nil =>
    cases l2 with
    | nil => rfl
    | cons y l2 => have := h (key y); simp at this
  | cons x l1 ih =>
    cases l2 with
    | nil => have := h (key x); simp at this
    | cons y l2 =>
      have hx : key y ≤ key x := by
        have hm : x ∈ (y :: l2) := by
          have hf : x ∈ (x :: l1).filter (fun z => decide (key z = key x)) := by simp
          rw [h (key x)] at hf
          exact (List.mem_filter.1 hf).1
        obtain ⟨j, hj⟩ := List.getElem?_of_mem hm
        have hlt := (List.getElem?_eq_some_iff.1 hj).1
        have := h2 0 j (Nat.le_refl _) (Nat.zero_le _) hlt
        simpa [List.getD_eq_getElem?_getD, hj] using this
      have hy : key x ≤ key y := by
        have hm : y ∈ (x :: l1) := by
          have hf : y ∈ (y :: l2).filter (fun z => decide (key z = key y)) := by simp
          rw [← h (key y)] at hf
          exact (List.mem_filter.1 hf).1
        obtain ⟨j, hj⟩ := List.getElem?_of_mem hm
        have hlt := (List.getElem?_eq_some_iff.1 hj).1
        have := h1 0 j (Nat.le_refl _) (Nat.zero_le _) hlt
        simpa [List.getD_eq_getElem?_getD, hj] using this
      have hk : key x = key y := by omega
      have hxy : x = y := by
        have := h (key x)
        simp [hk] at this
        exact this.1
      subst hxy
      congr 1
      refine ih (fun i j i1 i2 i3 => ?_) (fun i j i1 i2 i3 => ?_) (fun c => ?_)
      · have := h1 (i + 1) (j + 1) (by omega) (by omega) (by simp; omega)
        simpa [List.getD_eq_getElem?_getD] using this
      · have := h2 (i + 1) (j + 1) (by omega) (by omega) (by simp; omega)
        simpa [List.getD_eq_getElem?_getD] using this
      · have := h c
        simp only [List.filter_cons] at this
        split at this
        · simpa using this
        · exact this
end Go.dD
namespace Go.dD
variable {α : Type} {key : α → Int} {d : α}
theorem Rl.pd {Pd : α → Prop} {l l' : List α} {a b n : Nat} (h : Rl key d l l' a b) (hb : b ≤ n) (hp : ∀ i, i < n → Pd (l.getD i d)) : ∀ i, i < n → Pd (l'.getD i d) := fun i hi => by
  by_cases h1 : a ≤ i ∧ i < b
  · obtain ⟨j, j1, j2, j3⟩ := h.mem i h1.1 h1.2
    rw [j3]; exact hp j (by omega)
  · rw [h.out i (by omega)]; exact hp i hi
def Ins (key : α → Int) (d : α) (l : List α) (a j i : Nat) : Prop := ∀ x y, a ≤ x → x ≤ y → y ≤ i → y ≠ j → key (l.getD x d) ≤ key (l.getD y d)
theorem Ins.start {l : List α} {a i : Nat} (h : Sd key d l a i) : Ins key d l a i i := fun x y h1 h2 h3 h4 => h x y h1 h2 (by omega)
theorem kZ {l : List α} {j k : Nat} (hj : 0 < j) (hl : j < l.length) : ((l.set j (l.getD (j - 1) d)).set (j - 1) (l.getD j d)).getD k d = if k = j then l.getD (j - 1) d else if k = j - 1 then l.getD j d else l.getD k d := by
  by_cases e1 : k = j
  · subst e1
    rw [if_pos rfl]
    simp only [List.getD_eq_getElem?_getD]
    rw [List.getElem?_set_ne (by omega)]
    simp [hl]
  · rw [if_neg e1]
    by_cases e2 : k = j - 1
    · subst e2
      rw [if_pos rfl]
      simp only [List.getD_eq_getElem?_getD]
      simp [show j - 1 < l.length by omega]
    · rw [if_neg e2]
      simp only [List.getD_eq_getElem?_getD]
      rw [List.getElem?_set_ne (by omega), List.getElem?_set_ne (by omega)]
theorem Ins.step {l : List α} {a j i : Nat} (h : Ins key d l a j i) (h1 : a < j) (h2 : j ≤ i) (hl : j < l.length) (hk : key (l.getD j d) < key (l.getD (j - 1) d)) : Ins key d ((l.set j (l.getD (j - 1) d)).set (j - 1) (l.getD j d)) a (j - 1) i := fun x y x1 x2 x3 x4 => by
  rw [kZ (by omega) hl, kZ (by omega) hl, if_neg x4]
  by_cases ey : y = j
  · rw [if_pos ey]
    by_cases ex : x = j
    · rw [if_pos ex]; exact Int.le_refl _
    · rw [if_neg ex]
      by_cases ex2 : x = j - 1
      · rw [if_pos ex2]; omega
      · rw [if_neg ex2]; exact h x (j - 1) x1 (by omega) (by omega) (by omega)
  · rw [if_neg ey]
    by_cases ex : x = j
    · rw [if_pos ex]; exact h (j - 1) y (by omega) (by omega) x3 ey
    · rw [if_neg ex]
      by_cases ex2 : x = j - 1
      · rw [if_pos ex2]; exact h j y (by omega) (by omega) x3 ey
      · rw [if_neg ex2]; exact h x y x1 x2 x3 ey
theorem Rl.Fk {l : List α} {a b j : Nat} (h1 : a < j) (h2 : j < b) (hl : j < l.length) (hk : key (l.getD j d) < key (l.getD (j - 1) d)) : Rl key d l ((l.set j (l.getD (j - 1) d)).set (j - 1) (l.getD j d)) a b := by
  obtain ⟨i, rfl⟩ : ∃ i, j = i + 1 := ⟨j - 1, by omega⟩
  rw [show i + 1 - 1 = i by omega] at hk ⊢
  rw [swap_comm]
  exact Rl.swap (by omega) h2 hl (by omega)
theorem Rl.Na {l : List α} {a b j : Nat} (h1 : a ≤ j) (h2 : j + 1 < b) (hl : j + 1 < l.length) (hk : key (l.getD (j + 1) d) ≠ key (l.getD j d)) : Rl key d l ((l.set j (l.getD (j + 1) d)).set (j + 1) (l.getD j d)) a b :=
  Rl.swap h1 h2 hl (fun e => hk e.symm)
theorem Ins.fin {l : List α} {a j i : Nat} (h : Ins key d l a j i) (hj : a ≤ j) (he : j = a ∨ key (l.getD (j - 1) d) ≤ key (l.getD j d)) : Sd key d l a (i + 1) := fun x y h1 h2 h3 => by
  by_cases ey : y = j
  · subst ey
    by_cases ex : x = y
    · subst ex; exact Int.le_refl _
    · rcases he with he | he
      · omega
      · exact Int.le_trans (h x (y - 1) h1 (by omega) (by omega) (by omega)) he
  · exact h x y h1 h2 (by omega) ey
end Go.dD
namespace Go.dD
variable {α : Type} {key : α → Int} {d : α}
theorem M7 {l : List α} {m b h : Nat} {k : Int} (hs : Sd key d l m b) (h1 : m ≤ h) (h2 : h < b) (hk : key (l.getD h d) < k) : ∀ x, m ≤ x → x < h + 1 → key (l.getD x d) < k := fun x x1 x2 => by
  have := hs x h x1 (by omega) h2; omega
theorem NC {l : List α} {m b h : Nat} {k : Int} (hs : Sd key d l m b) (h1 : m ≤ h) (h2 : h < b) (hk : k ≤ key (l.getD h d)) : ∀ x, h ≤ x → x < b → k ≤ key (l.getD x d) := fun x x1 x2 => by
  have := hs h x h1 x1 x2; omega
theorem NV {l : List α} {m b h : Nat} {k : Int} (hs : Sd key d l m b) (h1 : m ≤ h) (h2 : h < b) (hk : key (l.getD h d) ≤ k) : ∀ x, m ≤ x → x < h + 1 → key (l.getD x d) ≤ k := fun x x1 x2 => by
  have := hs x h x1 (by omega) h2; omega
theorem N7 {l : List α} {m b h : Nat} {k : Int} (hs : Sd key d l m b) (h1 : m ≤ h) (h2 : h < b) (hk : k < key (l.getD h d)) : ∀ x, h ≤ x → x < b → k < key (l.getD x d) := fun x x1 x2 => by
  have := hs h x h1 x1 x2; omega
structure Mv (key : α → Int) (d : α) (l l2 : List α) (a b k : Nat) : Prop where
  rl : Rl key d l l2 a b
  at_ : l2.getD k d = l.getD a d
  lo : ∀ x, a ≤ x → x < k → l2.getD x d = l.getD (x + 1) d
  hi : ∀ x, k < x → l2.getD x d = l.getD x d
theorem Mv.start (l : List α) (a b : Nat) : Mv key d l l a b a := ⟨Rl.refl _ _ _, rfl, fun x h1 h2 => by omega, fun _ _ => rfl⟩
theorem qL {l : List α} {j k : Nat} (hl : j + 1 < l.length) : ((l.set j (l.getD (j + 1) d)).set (j + 1) (l.getD j d)).getD k d = if k = j then l.getD (j + 1) d else if k = j + 1 then l.getD j d else l.getD k d := by
  have := kZ (d := d) (l := l) (j := j + 1) (k := k) (by omega) hl
  rw [show j + 1 - 1 = j by omega] at this
  rw [swap_comm] at this
  rw [this]
  by_cases e1 : k = j
  · rw [if_neg (by omega), if_pos e1, if_pos e1]
  · by_cases e2 : k = j + 1
    · rw [if_pos e2, if_neg e1, if_pos e2]
    · rw [if_neg e2, if_neg e1, if_neg e1, if_neg e2]
theorem Mv.step {l l2 : List α} {a b k : Nat} (h : Mv key d l l2 a b k) (h1 : a ≤ k) (h2 : k + 1 < b) (hl : b ≤ l.length) (hk : key (l.getD (k + 1) d) < key (l.getD a d)) : Mv key d l ((l2.set k (l2.getD (k + 1) d)).set (k + 1) (l2.getD k d)) a b (k + 1) := by
  have hlen := h.rl.len
  refine ⟨h.rl.trans (Rl.Na h1 h2 (by omega) (by rw [h.at_, h.hi _ (by omega)]; omega)), ?_, fun x x1 x2 => ?_, fun x x1 => ?_⟩
  · rw [qL (by omega), if_neg (by omega), if_pos rfl, h.at_]
  · rw [qL (by omega)]
    by_cases e : x = k
    · subst e; rw [if_pos rfl, h.hi _ (by omega)]
    · rw [if_neg e, if_neg (by omega), h.lo x x1 (by omega)]
  · rw [qL (by omega), if_neg (by omega), if_neg (by omega), h.hi x (by omega)]
theorem Mv.fin {l l2 : List α} {a b i : Nat} (h : Mv key d l l2 a b (i - 1)) (ha : a + 1 ≤ i) (hi : i ≤ b) (hs : Sd key d l (a + 1) b) (hlo : ∀ x, a + 1 ≤ x → x < i → key (l.getD x d) < key (l.getD a d)) (hhi : ∀ x, i ≤ x → x < b → key (l.getD a d) ≤ key (l.getD x d)) : Sd key d l2 a b := by
  have get : ∀ x, a ≤ x → l2.getD x d = if x < i - 1 then l.getD (x + 1) d else if x = i - 1 then l.getD a d else l.getD x d := by
    intro x hx
    by_cases e1 : x < i - 1
    · rw [if_pos e1, h.lo x hx e1]
    · rw [if_neg e1]
      by_cases e2 : x = i - 1
      · rw [if_pos e2, e2, h.at_]
      · rw [if_neg e2, h.hi x (by omega)]
  intro x y x1 x2 x3
  rw [get x x1, get y (by omega)]
  by_cases e1 : x < i - 1
  · rw [if_pos e1]
    by_cases f1 : y < i - 1
    · rw [if_pos f1]; exact hs _ _ (by omega) (by omega) (by omega)
    · rw [if_neg f1]
      by_cases f2 : y = i - 1
      · rw [if_pos f2]; have := hlo (x + 1) (by omega) (by omega); omega
      · rw [if_neg f2]; exact hs _ _ (by omega) (by omega) (by omega)
  · rw [if_neg e1]
    by_cases e2 : x = i - 1
    · rw [if_pos e2, if_neg (by omega)]
      by_cases f2 : y = i - 1
      · rw [if_pos f2]; exact Int.le_refl _
      · rw [if_neg f2]; exact hhi y (by omega) x3
    · rw [if_neg e2, if_neg (by omega), if_neg (by omega)]; exact hs _ _ (by omega) x2 x3
structure Mw (key : α → Int) (d : α) (l l2 : List α) (a b m k : Nat) : Prop where
  rl : Rl key d l l2 a b
  at_ : l2.getD k d = l.getD m d
  hi : ∀ x, k < x → x ≤ m → l2.getD x d = l.getD (x - 1) d
  lo : ∀ x, x < k → l2.getD x d = l.getD x d
  up : ∀ x, m < x → l2.getD x d = l.getD x d
theorem Mw.start (l : List α) (a b m : Nat) : Mw key d l l a b m m := ⟨Rl.refl _ _ _, rfl, fun x h1 h2 => by omega, fun _ _ => rfl, fun _ _ => rfl⟩
theorem Mw.step {l l2 : List α} {a b m k : Nat} (h : Mw key d l l2 a b m k) (h0 : a < k) (h1 : k ≤ m) (h2 : m < b) (hl : b ≤ l.length) (hk : key (l.getD m d) < key (l.getD (k - 1) d)) : Mw key d l ((l2.set k (l2.getD (k - 1) d)).set (k - 1) (l2.getD k d)) a b m (k - 1) := by
  have hlen := h.rl.len
  refine ⟨h.rl.trans (Rl.Fk h0 (by omega) (by omega) (by rw [h.at_, h.lo _ (by omega)]; exact hk)), ?_, fun x x1 x2 => ?_, fun x x1 => ?_, fun x x1 => ?_⟩
  · rw [kZ (by omega) (by omega), if_neg (by omega), if_pos rfl, h.at_]
  · rw [kZ (by omega) (by omega)]
    by_cases e : x = k
    · subst e; rw [if_pos rfl, h.lo _ (by omega)]
    · rw [if_neg e, if_neg (by omega), h.hi x (by omega) x2]
  · rw [kZ (by omega) (by omega), if_neg (by omega), if_neg (by omega), h.lo x (by omega)]
  · rw [kZ (by omega) (by omega), if_neg (by omega), if_neg (by omega), h.up x x1]
theorem Mw.fin {l l2 : List α} {a b i : Nat} {m : Nat} (h : Mw key d l l2 a b m i) (ha : a ≤ i) (hi : i ≤ m) (hb : b = m + 1) (hs : Sd key d l a m) (hlo : ∀ x, a ≤ x → x < i → key (l.getD x d) ≤ key (l.getD m d)) (hhi : ∀ x, i ≤ x → x < m → key (l.getD m d) < key (l.getD x d)) : Sd key d l2 a b := by
  have get : ∀ x, x ≤ m → l2.getD x d = if x < i then l.getD x d else if x = i then l.getD m d else l.getD (x - 1) d := by
    intro x hx
    by_cases e1 : x < i
    · rw [if_pos e1, h.lo x e1]
    · rw [if_neg e1]
      by_cases e2 : x = i
      · rw [if_pos e2, e2, h.at_]
      · rw [if_neg e2, h.hi x (by omega) hx]
  intro x y x1 x2 x3
  rw [get x (by omega), get y (by omega)]
  by_cases e1 : x < i
  · rw [if_pos e1]
    by_cases f1 : y < i
    · rw [if_pos f1]; exact hs _ _ x1 x2 (by omega)
    · rw [if_neg f1]
      by_cases f2 : y = i
      · rw [if_pos f2]; exact hlo x x1 e1
      · rw [if_neg f2]; exact hs _ _ x1 (by omega) (by omega)
  · rw [if_neg e1]
    by_cases e2 : x = i
    · rw [if_pos e2, if_neg (show ¬ y < i by omega)]
      by_cases f2 : y = i
      · rw [if_pos f2]; exact Int.le_refl _
      · rw [if_neg f2]; have := hhi (y - 1) (by omega) (by omega); omega
    · rw [if_neg e2, if_neg (show ¬ y < i by omega), if_neg (show ¬ y = i by omega)]; exact hs _ _ (by omega) (by omega) (by omega)
structure ni (key : α → Int) (d : α) (l l1 : List α) (a s bA e b : Nat) : Prop where
  rl : Rl key d l l1 a b
  s1 : Sd key d l1 a s
  s2 : Sd key d l1 s bA
  s3 : Sd key d l1 bA e
  s4 : Sd key d l1 e b
  cr : ∀ i j, a ≤ i → i < bA → bA ≤ j → j < b → key (l1.getD i d) ≤ key (l1.getD j d)
theorem ni.stay {l : List α} {a m b bA s : Nat} (h1 : Sd key d l a m) (h2 : Sd key d l m b) (hs : a ≤ s ∧ s ≤ bA ∧ s ≤ m ∧ m ≤ bA + m - s ∧ bA ≤ bA + m - s ∧ bA + m - s ≤ b)
    (hc : ∀ i j, a ≤ i → i < s → bA + m - s ≤ j → j < b → key (l.getD i d) ≤ key (l.getD j d)) (hn : ¬ (s < m ∧ m < bA + m - s)) : ni key d l l a s bA (bA + m - s) b := by
  obtain ⟨e1, e2, e3, e4, e5, e6⟩ := hs
  by_cases hm : s = m
  · subst hm
    have he : bA + s - s = bA := by omega
    rw [he] at hc ⊢
    refine ⟨Rl.refl _ _ _, h1, h2.sub (Nat.le_refl _) (by omega), Sd.small (by omega), h2.sub e2 (Nat.le_refl _), fun i j i1 i2 j1 j2 => ?_⟩
    by_cases hi : i < s
    · exact hc i j i1 hi j1 j2
    · exact h2 i j (by omega) (by omega) j2
  · have hs2 : s = bA := by omega
    subst hs2
    have he : s + m - s = m := by omega
    rw [he] at hc ⊢
    refine ⟨Rl.refl _ _ _, h1.sub (Nat.le_refl _) (by omega), Sd.small (by omega), h1.sub e1 (Nat.le_refl _), h2, fun i j i1 i2 j1 j2 => ?_⟩
    by_cases hj : j < m
    · exact h1 i j i1 (by omega) hj
    · exact hc i j i1 i2 (by omega) j2
theorem ni.Rh {P X Y Z : List α} {a m b bA s : Nat} (hP : P.length = s) (hX : X.length = m - s) (hY : Y.length = bA + m - s - m) (h1 : Sd key d (P ++ X ++ Y ++ Z) a m) (h2 : Sd key d (P ++ X ++ Y ++ Z) m b) (hs : a ≤ s ∧ s ≤ bA ∧ s ≤ m ∧ m ≤ bA + m - s ∧ bA ≤ bA + m - s ∧ bA + m - s ≤ b)
    (hlt : ∀ i j, s ≤ i → i < m → m ≤ j → j < bA + m - s → key ((P ++ X ++ Y ++ Z).getD j d) < key ((P ++ X ++ Y ++ Z).getD i d))
    (hc : ∀ i j, a ≤ i → i < s → bA + m - s ≤ j → j < b → key ((P ++ X ++ Y ++ Z).getD i d) ≤ key ((P ++ X ++ Y ++ Z).getD j d))
    (hXm : ∀ x ∈ X, ∃ i, s ≤ i ∧ i < m ∧ x = (P ++ X ++ Y ++ Z).getD i d) (hYm : ∀ y ∈ Y, ∃ i, m ≤ i ∧ i < bA + m - s ∧ y = (P ++ X ++ Y ++ Z).getD i d) :
    ni key d (P ++ X ++ Y ++ Z) (P ++ Y ++ X ++ Z) a s bA (bA + m - s) b := by
  obtain ⟨e1, e2, e3, e4, e5, e6⟩ := hs
  have hr : Rl key d (P ++ X ++ Y ++ Z) (P ++ Y ++ X ++ Z) a b := Rl.rotate (by omega) (by omega) (fun x hx y hy => by
    obtain ⟨i, i1, i2, rfl⟩ := hXm x hx
    obtain ⟨j, j1, j2, rfl⟩ := hYm y hy
    have := hlt i j i1 i2 j1 j2
    omega)
  have g1 : ∀ i, i < s → (P ++ Y ++ X ++ Z).getD i d = (P ++ X ++ Y ++ Z).getD i d := fun i hi => by rw [q9, if_pos (by omega)]
  have g2 : ∀ i, s ≤ i → i < bA → (P ++ Y ++ X ++ Z).getD i d = (P ++ X ++ Y ++ Z).getD (i + (m - s)) d := fun i i1 i2 => by rw [q9, if_neg (by omega), if_pos (by omega), hX]
  have g3 : ∀ i, bA ≤ i → i < bA + m - s → (P ++ Y ++ X ++ Z).getD i d = (P ++ X ++ Y ++ Z).getD (i - (bA + m - s - m)) d := fun i i1 i2 => by rw [q9, if_neg (by omega), if_neg (by omega), if_pos (by omega), hY]
  have g4 : ∀ i, bA + m - s ≤ i → (P ++ Y ++ X ++ Z).getD i d = (P ++ X ++ Y ++ Z).getD i d := fun i hi => by rw [q9, if_neg (by omega), if_neg (by omega), if_neg (by omega)]
  refine ⟨hr, fun i j i1 i2 i3 => ?_, fun i j i1 i2 i3 => ?_, fun i j i1 i2 i3 => ?_, fun i j i1 i2 i3 => ?_, fun i j i1 i2 j1 j2 => ?_⟩
  · rw [g1 i (by omega), g1 j (by omega)]; exact h1 i j i1 i2 (by omega)
  · rw [g2 i i1 (by omega), g2 j (by omega) i3]; exact h2 _ _ (by omega) (by omega) (by omega)
  · rw [g3 i i1 (by omega), g3 j (by omega) i3]; exact h1 _ _ (by omega) (by omega) (by omega)
  · rw [g4 i i1, g4 j (by omega)]; exact h2 _ _ (by omega) i2 i3
  · by_cases hi : i < s
    · rw [g1 i hi]
      by_cases hj : j < bA + m - s
      · rw [g3 j j1 hj]; exact h1 _ _ i1 (by omega) (by omega)
      · rw [g4 j (by omega)]; exact hc i j i1 hi (by omega) j2
    · rw [g2 i (by omega) i2]
      by_cases hj : j < bA + m - s
      · rw [g3 j j1 hj]
        have := hlt (j - (bA + m - s - m)) (i + (m - s)) (by omega) (by omega) (by omega) (by omega)
        omega
      · rw [g4 j (by omega)]; exact h2 _ _ (by omega) (by omega) j2
theorem oD {l1 l2 : List α} {a bA b : Nat} (h : ∀ i j, a ≤ i → i < bA → bA ≤ j → j < b → key (l1.getD i d) ≤ key (l1.getD j d)) (hr : Rl key d l1 l2 a bA) : ∀ i j, a ≤ i → i < bA → bA ≤ j → j < b → key (l2.getD i d) ≤ key (l2.getD j d) := fun i j i1 i2 j1 j2 => by
  obtain ⟨k, k1, k2, e⟩ := hr.mem i i1 i2
  rw [e, hr.out j (by omega)]
  exact h k j k1 k2 j1 j2
theorem xZ {l1 l2 : List α} {a bA b : Nat} (h : ∀ i j, a ≤ i → i < bA → bA ≤ j → j < b → key (l1.getD i d) ≤ key (l1.getD j d)) (hr : Rl key d l1 l2 bA b) : ∀ i j, a ≤ i → i < bA → bA ≤ j → j < b → key (l2.getD i d) ≤ key (l2.getD j d) := fun i j i1 i2 j1 j2 => by
  obtain ⟨k, k1, k2, e⟩ := hr.mem j j1 j2
  rw [e, hr.out i (by omega)]
  exact h i k i1 i2 k1 k2
theorem LM {l : List α} {a m b bA h st0 r0 : Nat} (ham : a < m) (hmb : m < b) (hmid : bA = (a + b) / 2) (h1 : Sd key d l a m) (h2 : Sd key d l m b) (e0 : st0 = if bA < m then bA + m - b else a) (e1 : r0 = if bA < m then bA else m) (i1 : st0 ≤ h) (i2 : h < r0)
    (hk : key (l.getD h d) ≤ key (l.getD (bA + m - 1 - h) d)) : ∀ x, st0 ≤ x → x < h + 1 → key (l.getD x d) ≤ key (l.getD (bA + m - 1 - x) d) := fun x x1 x2 => by
  have f1 := h1 x h (by split at e0 <;> omega) (by omega) (by split at e1 <;> omega)
  have f2 := h2 (bA + m - 1 - h) (bA + m - 1 - x) (by split at e1 <;> omega) (by omega) (by split at e0 <;> omega)
  omega
theorem KI {l : List α} {a m b bA h st0 r0 : Nat} (ham : a < m) (hmb : m < b) (hmid : bA = (a + b) / 2) (h1 : Sd key d l a m) (h2 : Sd key d l m b) (e0 : st0 = if bA < m then bA + m - b else a) (e1 : r0 = if bA < m then bA else m) (i1 : st0 ≤ h) (i2 : h < r0)
    (hk : key (l.getD (bA + m - 1 - h) d) < key (l.getD h d)) : ∀ x, h ≤ x → x < r0 → key (l.getD (bA + m - 1 - x) d) < key (l.getD x d) := fun x x1 x2 => by
  have f1 := h1 h x (by split at e0 <;> omega) (by omega) (by split at e1 <;> omega)
  have f2 := h2 (bA + m - 1 - x) (bA + m - 1 - h) (by split at e1 <;> omega) (by omega) (by split at e0 <;> omega)
  omega
end Go.dD
namespace Go.dD
variable {α : Type} {key : α → Int} {d : α}
theorem ur {b x A : Nat} (h1 : b ∣ x) (h2 : b ∣ A) (h : x ≤ A) : x = A ∨ x + b ≤ A := by
  obtain ⟨u, rfl⟩ := h1
  obtain ⟨v, rfl⟩ := h2
  rcases Nat.eq_zero_or_pos b with hb | hb
  · subst hb; left; simp
  · have huv : u ≤ v := Nat.le_of_mul_le_mul_left h hb
    rcases Nat.lt_or_ge u v with h3 | h3
    · right
      have := Nat.mul_le_mul_left b h3
      rw [Nat.mul_succ] at this
      exact this
    · left; congr 1; omega
def Bk (key : α → Int) (d : α) (l : List α) (s n : Nat) : Prop := ∀ x, s ∣ x → Sd key d l x (min (x + s) n)
def Bd (key : α → Int) (d : α) (l : List α) (s A : Nat) : Prop := ∀ x, s ∣ x → x + s ≤ A → Sd key d l x (x + s)
theorem Bd.zero (l : List α) (s : Nat) (hs : 0 < s) : Bd key d l s 0 := fun x _ h => by omega
theorem Bd.step {l l2 : List α} {s A : Nat} (h : Bd key d l s A) (hA : s ∣ A) (hr : Rl key d l l2 A (s + A)) (h2 : Sd key d l2 A (s + A)) : Bd key d l2 s (s + A) := fun x hx hle => by
  rcases ur hx hA (by omega) with e | e
  · subst e; exact h2.sub (Nat.le_refl _) (by omega)
  · exact (h x hx e).congr (fun i i1 i2 => hr.out i (by omega))
theorem Bd.fin {l l2 : List α} {s A n : Nat} (h : Bd key d l s A) (hA : s ∣ A) (hAn : A ≤ n) (hn : n < s + A) (hr : Rl key d l l2 A n) (h2 : Sd key d l2 A n) : Bk key d l2 s n := fun x hx => by
  rcases Nat.lt_or_ge A x with h3 | h3
  · rcases ur hA hx (Nat.le_of_lt h3) with e | e
    · omega
    · exact Sd.small (by omega)
  · rcases ur hx hA h3 with e | e
    · subst e; exact h2.sub (Nat.le_refl _) (by omega)
    · rw [Nat.min_eq_left (by omega)]
      exact (h x hx e).congr (fun i i1 i2 => hr.out i (by omega))
def Br (key : α → Int) (d : α) (l : List α) (s n A : Nat) : Prop := ∀ x, s ∣ x → A ≤ x → Sd key d l x (min (x + s) n)
theorem Bk.br {l : List α} {s n : Nat} (h : Bk key d l s n) : Br key d l s n 0 := fun x hx _ => h x hx
theorem Br.step {l l2 : List α} {s n A B : Nat} (h : Br key d l s n A) (hAB : A ≤ B) (hr : Rl key d l l2 A B) : Br key d l2 s n B := fun x hx hle => (h x hx (by omega)).congr (fun i i1 i2 => hr.out i (by omega))
theorem nZ {s A : Nat} (h : 2 * s ∣ A) : s ∣ A := Nat.dvd_trans ⟨2, by rw [Nat.mul_comm]⟩ h
theorem Br.two {l : List α} {s n A : Nat} (h : Br key d l s n A) (hA : 2 * s ∣ A) (hn : 2 * s + A ≤ n) : Sd key d l A (A + s) ∧ Sd key d l (A + s) (2 * s + A) := by
  have h1 := h A (nZ hA) (Nat.le_refl _)
  have h2 := h (A + s) (Nat.dvd_add (nZ hA) (Nat.dvd_refl _)) (by omega)
  rw [Nat.min_eq_left (by omega)] at h1
  rw [Nat.min_eq_left (by omega)] at h2
  exact ⟨h1, h2.sub (Nat.le_refl _) (by omega)⟩
theorem Br.last {l : List α} {s n A : Nat} (h : Br key d l s n A) (hA : 2 * s ∣ A) (hn : n < 2 * s + A) (hm : A + s < n) : Sd key d l A (A + s) ∧ Sd key d l (A + s) n := by
  have h1 := h A (nZ hA) (Nat.le_refl _)
  have h2 := h (A + s) (Nat.dvd_add (nZ hA) (Nat.dvd_refl _)) (by omega)
  rw [Nat.min_eq_left (by omega)] at h1
  rw [Nat.min_eq_right (by omega)] at h2
  exact ⟨h1, h2⟩
theorem Br.one {l : List α} {s n A : Nat} (h : Br key d l s n A) (hA : 2 * s ∣ A) (hm : n ≤ A + s) : Sd key d l A n := by
  have h1 := h A (nZ hA) (Nat.le_refl _)
  rwa [Nat.min_eq_right (by omega)] at h1
theorem Bk.all {l : List α} {s n : Nat} (h : Bk key d l s n) (hn : n ≤ s) : Sd key d l 0 n := by
  have := h 0 (Nat.dvd_zero _)
  rwa [Nat.min_eq_right (by omega)] at this
end Go.dD
namespace Go.ag
def cls (ls : List Int) (n : Nat) : List Int := ((List.range ls.length).filter (fun i => decide (ls.getD i 0 = (n : Int)))).map (fun i : Nat => (i : Int))
def gn (ls : List Int) : Nat → List Int
  | 0 => []
  | n + 1 => gn ls n ++ cls ls (n + 1)
def ord (ls : List Int) : List Int := gn ls 15
def off (ls : List Int) : Nat → Nat
  | 0 => 0
  | n + 1 => (gn ls n).length
def cnt (ls : List Int) (n : Nat) : Int := if n = 0 then 0 else ((cls ls n).length : Int)
def cQ (ls : List Int) : List Int := (List.range 16).map (cnt ls)
def base (ls : List Int) : Nat → Int
  | 0 => 0
  | n + 1 => 2 * (base ls n + cnt ls n)
def lenOf (ls : List Int) (s : Nat) : Nat := (ls.getD s 0).toNat
def gg (ls : List Int) (s : Nat) : Int := base ls (lenOf ls s) + ((cls (ls.take s) (lenOf ls s)).length : Int)
def Vl (ls : List Int) : Prop := ls.length ≤ 320 ∧ ∀ x ∈ ls, 0 ≤ x ∧ x ≤ 15
theorem km (ls : List Int) : (cQ ls).length = 16 := by simp [cQ]
theorem oC {ls : List Int} {n : Nat} (h : n < 16) : (cQ ls).getD n 0 = cnt ls n := by simp [cQ, List.getD_eq_getElem?_getD, h]
theorem z6 (ls : List Int) (n : Nat) : (cls ls n).length ≤ ls.length := by
  unfold cls
  have := List.length_filter_le (fun i => decide (ls.getD i 0 = (n : Int))) (List.range ls.length)
  simpa using this
theorem iZ (ls : List Int) (n : Nat) : 0 ≤ cnt ls n := by unfold cnt; split <;> omega
theorem IQ (ls : List Int) (n : Nat) : cnt ls n ≤ ls.length := by
  have := z6 ls n
  unfold cnt; split <;> omega
theorem getD_take {ls : List Int} {i k : Nat} (h : i < k) : (ls.take k).getD i 0 = ls.getD i 0 := by
  simp [List.getD_eq_getElem?_getD, List.getElem?_take, h]
theorem rZ {ls : List Int} {k n : Nat} (h : k < ls.length) : cls (ls.take (k + 1)) n = cls (ls.take k) n ++ (if ls[k] = (n : Int) then [(k : Int)] else []) := by
  unfold cls
  have e1 : (ls.take (k + 1)).length = k + 1 := by simp; omega
  have e2 : (ls.take k).length = k := by simp; omega
  rw [e1, e2, List.range_succ, List.filter_append, List.map_append]
  congr 1
  · congr 1
    apply List.filter_congr
    intro i hi
    have hi := List.mem_range.1 hi
    rw [getD_take (by omega), getD_take hi]
  · have : (ls.take (k + 1)).getD k 0 = ls[k] := by rw [getD_take (by omega)]; simp [List.getD_eq_getElem?_getD, h]
    by_cases he : ls[k] = (n : Int)
    · simp only [List.filter_cons, List.filter_nil, this, he, decide_true, decide_false, if_true, if_false, List.map_cons, List.map_nil]; try rfl
    · simp only [List.filter_cons, List.filter_nil, this, he, decide_true, decide_false, if_true, if_false, List.map_cons, List.map_nil]; try rfl
theorem Db (n : Nat) : cls [] n = [] := by simp [cls]
theorem sD {ls : List Int} {k n : Nat} (h : k < ls.length) : cnt (ls.take (k + 1)) n = cnt (ls.take k) n + (if n ≠ 0 ∧ ls[k] = (n : Int) then 1 else 0) := by
  unfold cnt
  by_cases h0 : n = 0
  · simp [h0]
  · rw [if_neg h0, if_neg h0, rZ h]
    by_cases he : ls[k] = (n : Int)
    · simp [he, h0]
    · simp [he]
theorem AZ {ls : List Int} {k : Nat} (h : k < ls.length) (h1 : 0 < ls[k]) (h2 : ls[k] ≤ 15) : cQ (ls.take (k + 1)) = (cQ (ls.take k)).set ls[k].toNat ((cQ (ls.take k)).getD ls[k].toNat 0 + 1) := by
  apply List.ext_getElem?
  intro i
  by_cases hi : i < 16
  · rw [List.getElem?_set]
    by_cases he : ls[k].toNat = i
    · rw [if_pos he, if_pos (by rw [km]; omega), he, oC hi]
      simp only [cQ, List.getElem?_map, List.getElem?_range hi, Option.map_some]
      rw [sD h, if_pos ⟨by omega, by omega⟩]
    · rw [if_neg he]
      simp only [cQ, List.getElem?_map, List.getElem?_range hi, Option.map_some]
      rw [sD h, if_neg (fun hh => he (by omega))]
      simp
  · rw [List.getElem?_eq_none (by rw [km]; omega), List.getElem?_eq_none (by rw [List.length_set, km]; omega)]
theorem AY {ls : List Int} {k : Nat} (h : k < ls.length) (h1 : ls[k] = 0) : cQ (ls.take (k + 1)) = cQ (ls.take k) := by
  unfold cQ
  apply List.map_congr_left
  intro i _
  rw [sD h, if_neg (fun hh => hh.1 (by omega))]
  simp
theorem EZ : cQ [] = List.replicate 16 0 := by
  have : cnt [] = fun _ => 0 := by funext n; simp [cnt, Db]
  unfold cQ
  rw [this]
  rfl
def dP (ls : List Int) : List Int := ((List.range ls.length).filter (fun i => decide (0 < ls.getD i 0))).map (fun i : Nat => (i : Int))
theorem qu {ls : List Int} {k : Nat} (h : k < ls.length) : dP (ls.take (k + 1)) = dP (ls.take k) ++ (if 0 < ls[k] then [(k : Int)] else []) := by
  unfold dP
  have e1 : (ls.take (k + 1)).length = k + 1 := by simp; omega
  have e2 : (ls.take k).length = k := by simp; omega
  rw [e1, e2, List.range_succ, List.filter_append, List.map_append]
  congr 1
  · congr 1
    apply List.filter_congr
    intro i hi
    have hi := List.mem_range.1 hi
    rw [getD_take (by omega), getD_take hi]
  · have : (ls.take (k + 1)).getD k 0 = ls[k] := by rw [getD_take (by omega)]; simp [List.getD_eq_getElem?_getD, h]
    by_cases he : 0 < ls[k]
    · simp only [List.filter_cons, List.filter_nil, this, he, decide_true, decide_false, if_true, if_false, List.map_cons, List.map_nil]; try rfl
    · simp only [List.filter_cons, List.filter_nil, this, he, decide_true, decide_false, if_true, if_false, List.map_cons, List.map_nil]; try rfl
theorem uF (ls : List Int) : (dP ls).length ≤ ls.length := by
  unfold dP
  have := List.length_filter_le (fun i => decide (0 < ls.getD i 0)) (List.range ls.length)
  simpa using this
def left (C : List Int) : Nat → Int
  | 0 => 1
  | n + 1 => 2 * left C n - C.getD (n + 1) 0
def gS (C : List Int) (all : Int) : Bool := (List.range 15).all (fun n => decide (0 ≤ left C (n + 1))) && (decide (left C 15 = 0) || decide (all = 0) || (decide (all = 1) && decide (C.getD 1 0 = 1)))
theorem zd {C : List Int} (hC : ∀ i, 0 ≤ C.getD i 0) : ∀ n, left C n ≤ 2 ^ n
  | 0 => by simp [left]
  | n + 1 => by
    have h := zd hC n
    have := hC (n + 1)
    simp only [left]
    rw [Int.pow_succ]
    omega
theorem zZ {C : List Int} (hC : ∀ i, 0 ≤ C.getD i 0) {n : Nat} (hn : n ≤ 15) : left C n ≤ 32768 := by
  refine Int.le_trans (zd hC n) ?_
  have : (2 : Nat) ^ n ≤ 2 ^ 15 := Nat.pow_le_pow_right (by decide) hn
  have e : ((2 : Int) ^ n) = ((2 ^ n : Nat) : Int) := by simp
  rw [e]
  omega
theorem xm {C : List Int} {all : Int} {n : Nat} (h1 : 1 ≤ n) (h2 : n ≤ 15) (h : left C n < 0) : gS C all = false := by
  unfold gS
  have : (List.range 15).all (fun n => decide (0 ≤ left C (n + 1))) = false := by
    rw [List.all_eq_false]
    exact ⟨n - 1, List.mem_range.2 (by omega), by rw [show n - 1 + 1 = n by omega]; simpa using h⟩
  rw [this]; rfl
theorem C4 {C : List Int} {all : Int} (h : ∀ n, 1 ≤ n → n ≤ 15 → 0 ≤ left C n) : gS C all = (decide (left C 15 = 0) || decide (all = 0) || (decide (all = 1) && decide (C.getD 1 0 = 1))) := by
  unfold gS
  have : (List.range 15).all (fun n => decide (0 ≤ left C (n + 1))) = true := by
    rw [List.all_eq_true]
    intro x hx
    have := List.mem_range.1 hx
    simpa using h (x + 1) (by omega) (by omega)
  rw [this]; rfl
theorem Hm {C : List Int} {k : Nat} (hno : ∀ m, 1 ≤ m → m ≤ k → 0 ≤ left C m) : 0 ≤ left C k := by
  rcases Nat.eq_zero_or_pos k with e | e
  · subst e; simp [left]
  · exact hno k e (Nat.le_refl _)
theorem qN {C : List Int} {k : Nat} : 2 * left C k - C.getD ((k : Int) + 1).toNat 0 = left C (k + 1) := by
  rw [show ((k : Int) + 1).toNat = k + 1 by omega]; rfl
theorem Be {C : List Int} {k : Nat} (hno : ∀ m, 1 ≤ m → m ≤ k → 0 ≤ left C m) (h : ¬ 2 * left C k - C.getD ((k : Int) + 1).toNat 0 < 0) : ∀ m, 1 ≤ m → m ≤ k + 1 → 0 ≤ left C m := by
  intro m h1 h2
  rcases Nat.lt_or_ge m (k + 1) with h3 | h3
  · exact hno m h1 (by omega)
  · obtain rfl : m = k + 1 := by omega
    rw [qN] at h
    omega
theorem nh {C : List Int} {all : Int} {k : Nat} (hk : k ≤ 15) (h8 : ¬ ((k : Int) + 1 ≤ 15)) (hno : ∀ m, 1 ≤ m → m ≤ k → 0 ≤ left C m) : gS C all = (decide (left C k = 0) || decide (all = 0) || (decide (all = 1) && decide (C.getD (Int.toNat 1) 0 = 1))) := by
  obtain rfl : k = 15 := by omega
  exact C4 hno
def okB (ls : List Int) : Bool := ls.all (fun x => decide (0 ≤ x ∧ x ≤ 15))
def cu (ls : List Int) : Int := if 320 < ls.length then 1 else if okB ls = true then (if gS (cQ ls) ((dP ls).length : Int) = true then 0 else 4) else 1
def dj (ls : List Int) : Int := ls.foldl (fun a x => if a < x then x else a) 0
theorem lk {ls : List Int} {n : Nat} {x : Int} : x ∈ cls ls n ↔ 0 ≤ x ∧ x.toNat < ls.length ∧ ls.getD x.toNat 0 = (n : Int) := by
  unfold cls
  simp only [List.mem_map, List.mem_filter, List.mem_range, decide_eq_true_eq]
  constructor
  · rintro ⟨i, ⟨h1, h2⟩, rfl⟩
    exact ⟨by omega, by simpa using h1, by simpa using h2⟩
  · rintro ⟨h1, h2, h3⟩
    exact ⟨x.toNat, ⟨h2, h3⟩, by omega⟩
theorem sv {ls : List Int} {x : Int} : ∀ {n : Nat}, x ∈ gn ls n ↔ ∃ m, 1 ≤ m ∧ m ≤ n ∧ x ∈ cls ls m
  | 0 => by simp [gn]; omega
  | n + 1 => by
    simp only [gn, List.mem_append, sv (n := n)]
    constructor
    · rintro (⟨m, h1, h2, h3⟩ | h)
      · exact ⟨m, h1, by omega, h3⟩
      · exact ⟨n + 1, by omega, Nat.le_refl _, h⟩
    · rintro ⟨m, h1, h2, h3⟩
      by_cases e : m = n + 1
      · subst e; exact .inr h3
      · exact .inl ⟨m, h1, by omega, h3⟩
theorem uE {ls : List Int} (hv : Vl ls) {x : Int} : x ∈ ord ls ↔ 0 ≤ x ∧ x.toNat < ls.length ∧ 0 < ls.getD x.toNat 0 := by
  unfold ord
  rw [sv]
  constructor
  · rintro ⟨m, h1, h2, h3⟩
    obtain ⟨a, b, c⟩ := lk.1 h3
    exact ⟨a, b, by omega⟩
  · rintro ⟨h1, h2, h3⟩
    have h4 := hv.2 (ls.getD x.toNat 0) (by simp [List.getD_eq_getElem?_getD, h2])
    refine ⟨(ls.getD x.toNat 0).toNat, by omega, by omega, lk.2 ⟨h1, h2, by omega⟩⟩
theorem mV (ls : List Int) {n : Nat} (h : 1 ≤ n) : off ls (n + 1) = off ls n + (cls ls n).length := by
  obtain ⟨m, rfl⟩ : ∃ m, n = m + 1 := ⟨n - 1, by omega⟩
  simp [off, gn]
theorem rk (ls : List Int) (n : Nat) : (off ls (n + 1) : Int) = off ls n + cnt ls n := by
  rcases Nat.eq_zero_or_pos n with h | h
  · subst h; simp [off, gn, cnt]
  · rw [mV ls h]
    unfold cnt
    rw [if_neg (by omega)]
    omega
theorem Dh (ls : List Int) {m n : Nat} (h : m ≤ n) : ∃ t, gn ls n = gn ls m ++ t := by
  induction n with
  | zero =>
    obtain rfl : m = 0 := by omega
    exact ⟨[], by simp⟩
  | succ n ih =>
    by_cases e : m = n + 1
    · subst e; exact ⟨[], by simp⟩
    · obtain ⟨t, ht⟩ := ih (by omega)
      exact ⟨t ++ cls ls (n + 1), by simp [gn, ht]⟩
theorem kX (ls : List Int) {m n : Nat} (h : m ≤ n) : off ls m ≤ off ls n := by
  induction n with
  | zero =>
    obtain rfl : m = 0 := by omega
    exact Nat.le_refl _
  | succ n ih =>
    by_cases e : m = n + 1
    · subst e; exact Nat.le_refl _
    · have := ih (by omega)
      have h2 := rk ls n
      have h3 := iZ ls n
      omega
theorem tX (ls : List Int) : (ord ls).length = off ls 16 := rfl
theorem Ha {ls : List Int} {n r : Nat} (h1 : 1 ≤ n) (h2 : n ≤ 15) (h : r < (cls ls n).length) : (ord ls).getD (off ls n + r) 0 = (cls ls n).getD r 0 := by
  obtain ⟨t, ht⟩ := Dh ls (show n ≤ 15 from h2)
  obtain ⟨m, rfl⟩ : ∃ m, n = m + 1 := ⟨n - 1, by omega⟩
  have e : ord ls = gn ls m ++ cls ls (m + 1) ++ t := by unfold ord; rw [ht]; rfl
  rw [e, List.append_assoc]
  simp only [List.getD_eq_getElem?_getD, off]
  rw [List.getElem?_append_right (by omega), List.getElem?_append_left (by omega)]
  congr 2
  omega
theorem rz {ls : List Int} {p : Nat} (h : p < (ord ls).length) : ∃ n r, 1 ≤ n ∧ n ≤ 15 ∧ r < (cls ls n).length ∧ p = off ls n + r := by
  have key : ∀ n, p < off ls (n + 1) → ∃ m r, 1 ≤ m ∧ m ≤ n ∧ r < (cls ls m).length ∧ p = off ls m + r := by
    intro n
    induction n with
    | zero => intro h; simp [off, gn] at h
    | succ n ih =>
      intro h
      by_cases h2 : p < off ls (n + 1)
      · obtain ⟨m, r, a, b, c, d⟩ := ih h2
        exact ⟨m, r, a, by omega, c, d⟩
      · have := mV ls (n := n + 1) (by omega)
        exact ⟨n + 1, p - off ls (n + 1), by omega, Nat.le_refl _, by omega, by omega⟩
  exact key 15 h
theorem Ex {ls : List Int} {s n : Nat} (h : s < ls.length) (hn : ls.getD s 0 = (n : Int)) : ∃ t, cls ls n = cls (ls.take s) n ++ ((s : Int) :: t) := by
  have e : ls = ls.take (s + 1) ++ ls.drop (s + 1) := (List.take_append_drop _ _).symm
  have key : ∀ k, s + 1 + k ≤ ls.length → ∃ t, cls (ls.take (s + 1 + k)) n = cls (ls.take s) n ++ ((s : Int) :: t) := by
    intro k
    induction k with
    | zero =>
      intro _
      refine ⟨[], ?_⟩
      rw [Nat.add_zero, rZ h, if_pos (by rw [← hn]; simp [List.getD_eq_getElem?_getD, h])]
    | succ k ih =>
      intro hk
      obtain ⟨t, ht⟩ := ih (by omega)
      refine ⟨t ++ (if ls[s + 1 + k] = (n : Int) then [((s + 1 + k : Nat) : Int)] else []), ?_⟩
      rw [show s + 1 + (k + 1) = (s + 1 + k) + 1 by omega, rZ (show s + 1 + k < ls.length by omega), ht]
      simp
  obtain ⟨t, ht⟩ := key (ls.length - (s + 1)) (by omega)
  rw [show s + 1 + (ls.length - (s + 1)) = ls.length by omega, List.take_length] at ht
  exact ⟨t, ht⟩
theorem uT (ls : List Int) (n : Nat) : (cls ls n).Nodup := by
  unfold cls
  have h : ((List.range ls.length).filter (fun i => decide (ls.getD i 0 = (n : Int)))).Nodup := List.Pairwise.filter _ List.nodup_range
  rw [List.Nodup, List.pairwise_map]
  exact List.Pairwise.imp (fun {a b} hab he => hab (Int.ofNat.inj he)) h
theorem rB {ls : List Int} {n r : Nat} (h1 : 1 ≤ n) (h2 : n ≤ 15) (h : r < (cls ls n).length) :
    ∃ s : Nat, (ord ls).getD (off ls n + r) 0 = (s : Int) ∧ s < ls.length ∧ ls.getD s 0 = (n : Int) ∧ lenOf ls s = n ∧ gg ls s = base ls n + r := by
  have hr0 : (cls ls n)[r]? = some ((cls ls n).getD r 0) := by simp [List.getD_eq_getElem?_getD, h]
  have hm : (cls ls n).getD r 0 ∈ cls ls n := List.mem_of_getElem? hr0
  obtain ⟨a, b, c⟩ := lk.1 hm
  obtain ⟨s, hs⟩ : ∃ s : Nat, (cls ls n).getD r 0 = (s : Int) := ⟨((cls ls n).getD r 0).toNat, by omega⟩
  rw [hs] at hr0 b c
  simp only [Int.toNat_natCast] at b c
  have hl : lenOf ls s = n := by unfold lenOf; rw [c]; omega
  refine ⟨s, by rw [Ha h1 h2 h, hs], b, c, hl, ?_⟩
  unfold gg
  rw [hl]
  congr 1
  obtain ⟨t, ht⟩ := Ex b c
  have hidx : (cls ls n)[(cls (ls.take s) n).length]? = some (s : Int) := by
    rw [ht, List.getElem?_append_right (Nat.le_refl _), Nat.sub_self]
    rfl
  have := (List.getElem?_inj (List.getElem?_eq_some_iff.1 hr0).1 (uT ls n)).1 (hr0.trans hidx.symm)
  omega
theorem xb {ls : List Int} {m n : Nat} (h : m ≤ n) (hz : ∀ k, m < k → k < n → cnt ls k = 0) (hmn : m < n) : base ls n = (base ls m + cnt ls m) * 2 ^ (n - m) := by
  induction n with
  | zero => omega
  | succ n ih =>
    by_cases e : m = n
    · subst e
      rw [show m + 1 - m = 1 by omega]
      simp only [base]
      omega
    · have := ih (by omega) (fun k k1 k2 => hz k k1 (by omega)) (by omega)
      simp only [base]
      rw [this, hz n (by omega) (by omega), show n + 1 - m = (n - m) + 1 by omega, Int.pow_succ]
      rw [Int.add_zero, Int.mul_comm 2, Int.mul_assoc]
theorem CN {ls : List Int} {p : Nat} (hp : p + 1 < (ord ls).length) : ∃ s t : Nat, (ord ls).getD p 0 = (s : Int) ∧ (ord ls).getD (p + 1) 0 = (t : Int) ∧ s < ls.length ∧ t < ls.length ∧ 1 ≤ lenOf ls s ∧ lenOf ls s ≤ lenOf ls t ∧ lenOf ls t ≤ 15 ∧ ls.getD s 0 = (lenOf ls s : Int) ∧ ls.getD t 0 = (lenOf ls t : Int) ∧ gg ls t = (gg ls s + 1) * 2 ^ (lenOf ls t - lenOf ls s) := by
  obtain ⟨m, r, m1, m2, hr, e1⟩ := rz (show p < (ord ls).length by omega)
  obtain ⟨n, q, n1, n2, hq, e2⟩ := rz hp
  obtain ⟨s, s1, s2, s3, s4, s5⟩ := rB m1 m2 hr
  obtain ⟨t, t1, t2, t3, t4, t5⟩ := rB n1 n2 hq
  have hmn : m ≤ n := by
    rcases Nat.lt_or_ge n m with h | h
    · exfalso
      have := kX ls (show n + 1 ≤ m from h)
      have := mV ls n1
      omega
    · exact h
  refine ⟨s, t, by rw [e1]; exact s1, by rw [e2]; exact t1, s2, t2, by omega, by omega, by omega, by rw [s4]; exact s3, by rw [t4]; exact t3, ?_⟩
  rw [s4, t4, s5, t5]
  by_cases e : m = n
  · subst e
    rw [Nat.sub_self]
    simp
    omega
  · have h3 := kX ls (show m + 1 ≤ n by omega)
    have h4 := mV ls m1
    have hq0 : q = 0 := by omega
    have hrl : r + 1 = (cls ls m).length := by omega
    subst hq0
    have hz : ∀ k, m < k → k < n → cnt ls k = 0 := by
      intro k k1 k2
      have h5 := kX ls (show m + 1 ≤ k by omega)
      have h6 := kX ls (show k + 1 ≤ n by omega)
      have h7 := rk ls k
      have h8 := iZ ls k
      omega
    have hc : cnt ls m = (r : Int) + 1 := by unfold cnt; rw [if_neg (by omega)]; omega
    rw [xb hmn hz (by omega), hc]
    simp [Int.add_assoc]
theorem zQ {ls : List Int} (hp : 0 < (ord ls).length) : ∃ t : Nat, (ord ls).getD 0 0 = (t : Int) ∧ t < ls.length ∧ 1 ≤ lenOf ls t ∧ lenOf ls t ≤ 15 ∧ ls.getD t 0 = (lenOf ls t : Int) ∧ gg ls t = 0 := by
  obtain ⟨n, q, n1, n2, hq, e2⟩ := rz hp
  obtain ⟨t, t1, t2, t3, t4, t5⟩ := rB n1 n2 hq
  refine ⟨t, by rw [e2]; exact t1, t2, by omega, by omega, by rw [t4]; exact t3, ?_⟩
  have hz : ∀ k, 0 < k → k < n → cnt ls k = 0 := by
    intro k k1 k2
    have h6 := kX ls (show k + 1 ≤ n by omega)
    have h7 := rk ls k
    have h8 := iZ ls k
    omega
  rw [t5, xb (Nat.zero_le n) hz (by omega)]
  simp [base, cnt]
  omega
end Go.ag
namespace Go.ag
open Go.dD
abbrev key (ls : List Int) (x : Int) : Int := ls.getD x.toNat 0
theorem DL (l : List Nat) (q : Nat → Bool) (p : Int → Bool) : ((l.filter q).map (fun i : Nat => (i : Int))).filter p = (l.filter (fun i => q i && p (i : Int))).map (fun i : Nat => (i : Int)) := by
  rw [List.filter_map, List.filter_filter]
  congr 2
  funext i
  simp [Bool.and_comm]
theorem Dp (ls : List Int) (m : Nat) (c : Int) : (cls ls m).filter (fun x => decide (key ls x = c)) = if (m : Int) = c then cls ls m else [] := by
  by_cases h : (m : Int) = c
  · rw [if_pos h, List.filter_eq_self]
    intro x hx
    have := (lk.1 hx).2.2
    simpa [h] using this.trans h
  · rw [if_neg h, List.filter_eq_nil_iff]
    intro x hx
    have := (lk.1 hx).2.2
    simp only [decide_eq_true_eq]
    intro e
    exact h (this.symm.trans e)
theorem wu (ls : List Int) (c : Int) : ∀ n : Nat, (gn ls n).filter (fun x => decide (key ls x = c)) = if 1 ≤ c ∧ c ≤ (n : Int) then cls ls c.toNat else []
  | 0 => by rw [if_neg (by omega)]; rfl
  | n + 1 => by
    simp only [gn]
    rw [List.filter_append, wu ls c n, Dp]
    by_cases h : ((n + 1 : Nat) : Int) = c
    · rw [if_neg (by omega), if_pos h, if_pos (by omega), List.nil_append, ← h]
      rfl
    · rw [if_neg h, List.append_nil]
      by_cases h2 : 1 ≤ c ∧ c ≤ (n : Int)
      · rw [if_pos h2, if_pos (by omega)]
      · rw [if_neg h2, if_neg (by omega)]
theorem C8 {ls : List Int} (hv : ∀ x ∈ ls, 0 ≤ x ∧ x ≤ 15) (c : Int) : (dP ls).filter (fun x => decide (key ls x = c)) = if 1 ≤ c ∧ c ≤ 15 then cls ls c.toNat else [] := by
  unfold dP
  rw [DL]
  by_cases h : 1 ≤ c ∧ c ≤ 15
  · rw [if_pos h]
    unfold cls
    congr 1
    apply List.filter_congr
    intro i hi
    simp only [key, Int.toNat_natCast]
    by_cases e : ls.getD i 0 = c
    · have e2 : ls.getD i 0 = ((c.toNat : Nat) : Int) := by omega
      have e3 : 0 < ls.getD i 0 := by omega
      simp only [e, e2, decide_true, Bool.and_true, decide_eq_true_eq]
      simp; omega
    · have e2 : ¬ ls.getD i 0 = ((c.toNat : Nat) : Int) := by omega
      rw [decide_eq_false e, decide_eq_false e2, Bool.and_false]
  · rw [if_neg h]
    simp only [List.map_eq_nil_iff]
    rw [List.filter_eq_nil_iff]
    intro i hi hp
    have hi := List.mem_range.1 hi
    simp only [key, Int.toNat_natCast, Bool.and_eq_true, decide_eq_true_eq] at hp
    have := hv (ls.getD i 0) (by simp [List.getD_eq_getElem?_getD, hi])
    omega
theorem Kz (ls : List Int) : Sd (key ls) 0 (ord ls) 0 (ord ls).length := by
  have : ∀ n, Sd (key ls) 0 (gn ls n) 0 (gn ls n).length ∧ ∀ x ∈ gn ls n, key ls x ≤ (n : Int) := by
    intro n
    induction n with
    | zero => exact ⟨Sd.small (by simp [gn]), fun x hx => by simp [gn] at hx⟩
    | succ n ih =>
      have hle : ∀ x ∈ gn ls n, key ls x ≤ (n : Int) := ih.2
      have hcl : ∀ x ∈ cls ls (n + 1), key ls x = ((n + 1 : Nat) : Int) := fun x hx => (lk.1 hx).2.2
      refine ⟨?_, ?_⟩
      · simp only [gn, List.length_append]
        refine Sd.join (m := (gn ls n).length) ?_ ?_ ?_
        · exact ih.1.congr (fun i _ h => cK h)
        · intro i j i1 i2 i3
          rw [ea i1, ea (by omega), hcl _ (jj (by omega)), hcl _ (jj (by omega))]
          exact Int.le_refl _
        · intro i j i1 i2 i3 i4
          rw [cK i2, ea i3, hcl _ (jj (by omega))]
          have := hle _ (jj (d := 0) i2)
          omega
      · intro x hx
        simp only [gn, List.mem_append] at hx
        rcases hx with hx | hx
        · have := hle x hx; omega
        · have := hcl x hx; omega
  exact (this 15).1
theorem Dd {ls l2 : List Int} (hv : ∀ x ∈ ls, 0 ≤ x ∧ x ≤ 15) (hR : Rl (key ls) 0 (dP ls) l2 0 (dP ls).length) (hS : Sd (key ls) 0 l2 0 (dP ls).length) : l2 = ord ls := by
  refine unique (d := 0) (by rw [hR.len]; exact hS) (Kz ls) (fun c => ?_)
  rw [hR.same c, C8 hv]
  unfold ord
  rw [wu]
  rfl
theorem wR {ls : List Int} {x : Int} : x ∈ dP ls ↔ 0 ≤ x ∧ x.toNat < ls.length ∧ 0 < ls.getD x.toNat 0 := by
  unfold dP
  simp only [List.mem_map, List.mem_filter, List.mem_range, decide_eq_true_eq]
  constructor
  · rintro ⟨i, ⟨h1, h2⟩, rfl⟩
    exact ⟨by omega, by simpa using h1, by simpa using h2⟩
  · rintro ⟨h1, h2, h3⟩
    exact ⟨x.toNat, ⟨h2, h3⟩, by omega⟩
theorem Ag {l : List Nat} (h : l.Nodup) : (l.map (fun i : Nat => (i : Int))).Nodup := by
  rw [List.Nodup, List.pairwise_map]
  exact List.Pairwise.imp (fun {a b} hab he => hab (Int.ofNat.inj he)) h
theorem Al (ls : List Int) : (dP ls).Nodup := Ag (List.Pairwise.filter _ List.nodup_range)
theorem tc (ls : List Int) : ∀ n, (gn ls n).Nodup
  | 0 => by simp [gn]
  | n + 1 => by
    simp only [gn]
    rw [List.nodup_append]
    refine ⟨tc ls n, uT ls _, ?_⟩
    intro a ha b hb e
    subst e
    obtain ⟨m, m1, m2, m3⟩ := sv.1 ha
    have h1 := (lk.1 m3).2.2
    have h2 := (lk.1 hb).2.2
    omega
theorem wF {ls : List Int} (hv : Vl ls) : (dP ls).length = (ord ls).length :=
  ((List.perm_ext_iff_of_nodup (Al ls) (tc ls 15)).2 (fun x => by rw [wR]; exact (uE hv).symm)).length_eq
def xR (ls : List Int) : Nat → Int
  | 0 => 0
  | k + 1 => gg ls ((ord ls).getD k 0).toNat + 1
def ny (ls : List Int) : Nat → Int
  | 0 => 0
  | k + 1 => (lenOf ls ((ord ls).getD k 0).toNat : Int)
theorem qW (ls : List Int) : ∀ n, 0 ≤ base ls n
  | 0 => by simp [base]
  | n + 1 => by
    have := qW ls n
    have := iZ ls n
    simp only [base]
    omega
theorem pX {ls : List Int} : ∀ n : Nat, n ≤ 15 → left (cQ ls) n = 2 ^ n - (base ls n + cnt ls n)
  | 0, _ => by simp [left, base, cnt]
  | n + 1, h => by
    simp only [left, base]
    rw [pX n (by omega), oC (by omega), Int.pow_succ]
    omega
theorem sX {C : List Int} {all : Int} (h : gS C all = true) {n : Nat} (hn : n ≤ 15) : 0 ≤ left C n := by
  rcases Nat.eq_zero_or_pos n with e | e
  · subst e; simp [left]
  · by_cases hl : left C n < 0
    · rw [xm e hn hl] at h
      cases h
    · omega
theorem HA {ls : List Int} {all : Int} (hw : gS (cQ ls) all = true) {n r : Nat} (h1 : 1 ≤ n) (h2 : n ≤ 15) (h : r < (cls ls n).length) : base ls n + (r : Int) < 2 ^ n := by
  have h3 := sX hw h2
  rw [pX n h2] at h3
  have : cnt ls n = ((cls ls n).length : Int) := by unfold cnt; rw [if_neg (by omega)]
  omega
theorem pH {n : Nat} (h : n ≤ 15) : (2 : Int) ^ n ≤ 32768 := by
  have : (2 : Nat) ^ n ≤ 2 ^ 15 := Nat.pow_le_pow_right (by decide) h
  have e : ((2 : Int) ^ n) = ((2 ^ n : Nat) : Int) := by simp
  rw [e]
  omega
structure At (ls : List Int) (k : Nat) (s : Nat) : Prop where
  sym : (ord ls).getD k 0 = (s : Int)
  lt : s < ls.length
  one : 1 ≤ lenOf ls s
  top : lenOf ls s ≤ 15
  len : ls.getD s 0 = (lenOf ls s : Int)
  ge : ny ls k ≤ lenOf ls s
  nn : 0 ≤ ny ls k
  word : xR ls k * 2 ^ (lenOf ls s - (ny ls k).toNat) = gg ls s
  w0 : 0 ≤ gg ls s
  w1 : gg ls s < 2 ^ lenOf ls s
theorem OW {ls : List Int} {all : Int} (hw : gS (cQ ls) all = true) {k : Nat} (hk : k < (ord ls).length) : ∃ s, At ls k s := by
  obtain ⟨n, r, n1, n2, hr, e⟩ := rz hk
  obtain ⟨t, t1, t2, t3, t4, t5⟩ := rB n1 n2 hr
  have hlt := HA hw n1 n2 hr
  have hb := qW ls n
  cases k with
  | zero =>
    obtain ⟨s, s1, s2, s3, s4, s5, s6⟩ := zQ hk
    have hst : s = t := by rw [e] at s1; rw [t1] at s1; omega
    subst hst
    refine ⟨s, s1, s2, s3, s4, s5, by simp [ny], by simp [ny], by simp [xR, s6], by omega, by rw [t4, t5]; exact hlt⟩
  | succ k =>
    obtain ⟨s, u, s1, u1, s2, u2, s3, s4, s5, s6, u6, u7⟩ := CN hk
    have hut : u = t := by rw [e] at u1; rw [t1] at u1; omega
    subst hut
    refine ⟨u, u1, u2, by omega, s5, u6, by simp only [ny]; rw [s1]; simp; exact s4, by simp only [ny]; omega, ?_, by rw [t5]; omega, by rw [t4, t5]; exact hlt⟩
    simp only [xR, ny]
    rw [s1, u7]
    simp
def wd (ls : List Int) (s : Nat) : Int × Int := if 0 < lenOf ls s then (gg ls s, (lenOf ls s : Int)) else (0, 0)
def iX (ls : List Int) (k : Nat) : List (Int × Int) := (List.range ls.length).map (fun s : Nat => if (s : Int) ∈ (ord ls).take k then wd ls s else (0, 0))
def words (ls : List Int) : List (Int × Int) := (List.range ls.length).map (wd ls)
theorem o7 (ls : List Int) (k : Nat) : (iX ls k).length = ls.length := by simp [iX]
theorem xX (ls : List Int) : iX ls 0 = List.replicate ls.length (0, 0) := by
  simp [iX, List.map_const']
theorem zW {ls : List Int} (hv : Vl ls) {k : Nat} (hk : (ord ls).length ≤ k) : iX ls k = words ls := by
  unfold iX words
  rw [List.take_of_length_le hk]
  apply List.map_congr_left
  intro s hs
  have hs := List.mem_range.1 hs
  by_cases h : (s : Int) ∈ ord ls
  · rw [if_pos h]
  · rw [if_neg h]
    unfold wd
    rw [if_neg]
    intro h2
    exact h ((uE hv).2 ⟨by omega, by simpa using hs, by simpa [lenOf] using h2⟩)
theorem x7 {ls : List Int} {k s : Nat} (hk : k < (ord ls).length) (ha : At ls k s) : iX ls (k + 1) = (iX ls k).set s (gg ls s, (lenOf ls s : Int)) := by
  have e1 : (ord ls).take (k + 1) = (ord ls).take k ++ [(s : Int)] := by
    rw [List.take_succ_eq_append_getElem hk]
    congr 2
    have := ha.sym
    simpa [List.getD_eq_getElem?_getD, hk] using this
  apply List.ext_getElem?
  intro i
  rw [List.getElem?_set]
  by_cases hi : i < ls.length
  · by_cases e : s = i
    · subst e
      rw [if_pos rfl, if_pos (by rw [o7]; exact hi)]
      simp only [iX, List.getElem?_map, List.getElem?_range hi, Option.map_some]
      rw [if_pos (by rw [e1]; simp)]
      unfold wd
      rw [if_pos (by have := ha.one; omega)]
    · rw [if_neg e]
      simp only [iX, List.getElem?_map, List.getElem?_range hi, Option.map_some]
      by_cases hm : (i : Int) ∈ (ord ls).take k
      · rw [if_pos hm, if_pos (by rw [e1]; exact List.mem_append_left _ hm)]
      · rw [if_neg hm, if_neg]
        rw [e1]
        intro h
        rcases List.mem_append.1 h with h | h
        · exact hm h
        · have := List.mem_singleton.1 h
          omega
  · rw [List.getElem?_eq_none (by rw [o7]; omega)]
    have hs := ha.lt
    rw [if_neg (by omega), List.getElem?_eq_none (by rw [o7]; omega)]
theorem vf {ls : List Int} {k : Nat} (h : k < ls.length) : dj (ls.take (k + 1)) = if dj (ls.take k) < ls[k] then ls[k] else dj (ls.take k) := by
  unfold dj
  rw [List.take_succ_eq_append_getElem h, List.foldl_append]
  rfl
theorem yL (ls : List Int) : 0 ≤ dj ls := by
  have : ∀ (l : List Int) (a : Int), 0 ≤ a → 0 ≤ l.foldl (fun a x => if a < x then x else a) a := by
    intro l
    induction l with
    | nil => intro a h; exact h
    | cons x l ih => intro a h; simp only [List.foldl_cons]; exact ih _ (by split <;> omega)
  exact this ls 0 (Int.le_refl _)
theorem H4 {ls : List Int} {k : Nat} (h : ∀ i, i < k → 0 ≤ ls.getD i 0 ∧ ls.getD i 0 ≤ 15) (hk : ls.length ≤ k) : ∀ x ∈ ls, 0 ≤ x ∧ x ≤ 15 := by
  intro x hx
  obtain ⟨i, hi⟩ := List.getElem?_of_mem hx
  have hlt := (List.getElem?_eq_some_iff.1 hi).1
  have := h i (by omega)
  simpa [List.getD_eq_getElem?_getD, hi] using this
theorem o0 {ls : List Int} (h : ls.length ≤ 320) : ∀ i, 0 ≤ (cQ ls).getD i 0 ∧ (cQ ls).getD i 0 ≤ 320 := by
  intro i
  rcases Nat.lt_or_ge i 16 with hi | hi
  · rw [oC hi]
    have := iZ ls i
    have := IQ ls i
    omega
  · rw [List.getD_eq_getElem?_getD, List.getElem?_eq_none (by rw [km]; exact hi)]
    simp
theorem H0 (ls : List Int) : ∀ i, i < (dP ls).length → 0 ≤ (dP ls).getD i 0 ∧ (dP ls).getD i 0 < (ls.length : Int) := by
  intro i hi
  have := wR.1 (jj (d := 0) hi)
  omega
theorem yl {ls : List Int} {k : Nat} (hok : ∀ i, i < k → 0 ≤ ls.getD i 0 ∧ ls.getD i 0 ≤ 15) (h : 0 ≤ ls.getD k 0 ∧ ls.getD k 0 ≤ 15) : ∀ i, i < k + 1 → 0 ≤ ls.getD i 0 ∧ ls.getD i 0 ≤ 15 := by
  intro i hi
  by_cases e : i = k
  · subst e; exact h
  · exact hok i (by omega)
theorem CX {ls : List Int} {k : Nat} {x : Int} (h : k < ls.length) (hx : x = ls[k]) (h0 : x = 0) : cQ (ls.take (k + 1)) = cQ (ls.take k) ∧ dP (ls.take (k + 1)) = dP (ls.take k) ∧ dj (ls.take (k + 1)) = dj (ls.take k) := by
  have hz : ls[k] = 0 := by omega
  refine ⟨AY h hz, ?_, ?_⟩
  · rw [qu h, if_neg (by omega), List.append_nil]
  · rw [vf h, if_neg]
    have := yL (ls.take k)
    omega
theorem step_pos {ls : List Int} {k : Nat} {x : Int} (h : k < ls.length) (hx : x = ls[k]) (h0 : 0 < x) (h1 : x ≤ 15) : (cQ (ls.take k)).set x.toNat ((cQ (ls.take k)).getD x.toNat 0 + 1) = cQ (ls.take (k + 1)) ∧ dP (ls.take k) ++ [(k : Int)] = dP (ls.take (k + 1)) ∧ (dP (ls.take k)).length + 1 = (dP (ls.take (k + 1))).length ∧ (if dj (ls.take k) < x then x else dj (ls.take k)) = dj (ls.take (k + 1)) := by
  subst hx
  refine ⟨(AZ h h0 h1).symm, ?_, ?_, (vf h).symm⟩
  · rw [qu h, if_pos h0]
  · rw [qu h, if_pos h0]; simp
theorem w4 : dP [] = [] := rfl
theorem EI : dj [] = 0 := rfl
theorem u9 {ls : List Int} (h : 320 < ls.length) : cu ls = 1 := if_pos h
theorem oH {ls : List Int} {k : Nat} (h : ¬ 320 < ls.length) (hk : k < ls.length) (hb : ls.getD k 0 < 0 ∨ 15 < ls.getD k 0) : cu ls = 1 := by
  unfold cu
  rw [if_neg h, if_neg]
  intro ho
  unfold okB at ho
  rw [List.all_eq_true] at ho
  have := ho (ls.getD k 0) (by simp [List.getD_eq_getElem?_getD, hk])
  simp only [decide_eq_true_eq] at this
  omega
theorem H5 {ls : List Int} (h : ¬ 320 < ls.length) (hv : ∀ x ∈ ls, 0 ≤ x ∧ x ≤ 15) : cu ls = if gS (cQ ls) ((dP ls).length : Int) = true then 0 else 4 := by
  unfold cu
  rw [if_neg h, if_pos]
  unfold okB
  rw [List.all_eq_true]
  intro x hx
  simpa using hv x hx
theorem lQ {ls : List Int} (h : cu ls = 0) : Vl ls ∧ gS (cQ ls) ((dP ls).length : Int) = true := by
  unfold cu at h
  split at h
  · omega
  · split at h
    · rename_i ho
      split at h
      · rename_i hw
        refine ⟨⟨by omega, ?_⟩, hw⟩
        unfold okB at ho
        rw [List.all_eq_true] at ho
        intro x hx
        simpa using ho x hx
      · omega
    · omega
def mi (ls : List Int) (x : Int) : Int := if 0 ≤ x ∧ x < ls.length then (wd ls x.toNat).1 else 0
def kH (ls : List Int) (x : Int) : Int := if 0 ≤ x ∧ x < ls.length then (wd ls x.toNat).2 else 0
def n6 (ls : List Int) (x : Int) : Bool := decide (0 ≤ x ∧ x < ls.length ∧ (wd ls x.toNat).2 ≠ 0)
end Go.ag
namespace Go.ag
def Px (ls : List Int) : List Int := (List.range 16).map (fun n => ((cls ls n).length : Int))
def sy (ls : List Int) (m i : Nat) : List Int := gn ls m ++ cls (ls.take i) (m + 1)
end Go.ag
namespace Go.ag
def bk (ls : List Int) (n : Nat) : Nat → Int
  | 0 => base ls n
  | k + 1 => bk ls n k + 1
structure Sy (ls : List Int) (x : Int) (L r : Nat) : Prop where
  one : 1 ≤ L
  top : L ≤ 15
  lt : r < (cls ls L).length
  get : (cls ls L).getD r 0 = x
  w : mi ls x = base ls L + (r : Int)
  n : kH ls x = (L : Int)
  b : n6 ls x = true
theorem HB (ls : List Int) (m : Nat) : cnt ls (m + 1) = ((cls ls (m + 1)).length : Int) := by unfold cnt; rw [if_neg (by omega)]
theorem Me (ls : List Int) {m k : Nat} (hm : m < 15) (hk : k < (cls ls (m + 1)).length) : off ls (m + 1) + k < (ord ls).length := by
  have h1 := mV ls (n := m + 1) (by omega)
  have h2 := kX ls (show m + 1 + 1 ≤ 16 by omega)
  rw [tX]
  omega
theorem yE {ls : List Int} {all : Int} (hw : gS (cQ ls) all = true) {n : Nat} (hn : n ≤ 15) : base ls n + cnt ls n ≤ 32768 := by
  have h3 := sX hw hn
  rw [pX n hn] at h3
  have := pH hn
  omega
end Go.ag
namespace Go.Sl
theorem EL {ls : List Int} {k s : Nat} (hs : ag.At ls k s) {x : Int} (hx : x = (ag.lenOf ls s : Int)) : IntKind.i64.wrap (ag.xR ls k * 2 ^ (min (x - ag.ny ls k).toNat IntKind.i64.bits)) = ag.gg ls s := by
  have h1 := hs.top
  have h2 := hs.nn
  have h3 := hs.ge
  have h4 := hs.w0
  have h5 := hs.w1
  have h6 := ag.pH hs.top
  have e : min (x - ag.ny ls k).toNat IntKind.i64.bits = ag.lenOf ls s - (ag.ny ls k).toNat := by
    have : IntKind.i64.bits = 64 := rfl
    omega
  rw [e, hs.word]
  exact gU (by omega) (by omega)
theorem DS {ls : List Int} {all : Int} (hw : ag.gS (ag.cQ ls) all = true) {m : Nat} (hm : m ≤ 15) : IntKind.i64.wrap ((ag.base ls m + ag.cnt ls m) * 2 ^ (min (1 : Int).toNat IntKind.i64.bits)) = ag.base ls (m + 1) := by
  have h1 := ag.yE hw hm
  have h2 := ag.qW ls m
  have h3 := ag.iZ ls m
  rw [show min (1 : Int).toNat IntKind.i64.bits = 1 from rfl]
  simp only [ag.base]
  rw [Int.mul_comm 2, Int.pow_one]
  exact gU (by omega) (by omega)
end Go.Sl
namespace Go.ag
theorem G5 (ls : List Int) {m n : Nat} (h : m < n) : (base ls m + cnt ls m) * 2 ^ (n - m) ≤ base ls n := by
  induction n with
  | zero => omega
  | succ n ih =>
    have hc := iZ ls n
    by_cases e : m = n
    · subst e
      rw [show m + 1 - m = 1 by omega]
      simp only [base]
      omega
    · have := ih (by omega)
      simp only [base]
      rw [show n + 1 - m = (n - m) + 1 by omega, Int.pow_succ, ← Int.mul_assoc]
      omega
structure Pf (ls : List Int) (i k : Int) : Prop where
  n1 : 1 ≤ kH ls i
  n2 : kH ls i ≤ 15
  m1 : 1 ≤ kH ls k
  m2 : kH ls k ≤ 15
  a0 : 0 ≤ mi ls i
  a1 : mi ls i < 32768
  b0 : 0 ≤ mi ls k
  b1 : mi ls k < 32768
  ge : kH ls k ≤ kH ls i → mi ls k < (mi ls i).fdiv (2 ^ (kH ls i - kH ls k).toNat)
  lt : kH ls i < kH ls k → mi ls i < (mi ls k).fdiv (2 ^ (kH ls k - kH ls i).toNat)
theorem cE {ls : List Int} {m n r s : Nat} (h : m < n) (hm : 1 ≤ m) (hr : r < (cls ls m).length) : base ls m + (r : Int) < (base ls n + (s : Int)).fdiv (2 ^ (n - m)) := by
  have h1 := G5 ls h
  have hc : cnt ls m = ((cls ls m).length : Int) := by unfold cnt; rw [if_neg (by omega)]
  have hp : (0 : Int) < 2 ^ (n - m) := Int.pow_pos (by decide)
  rw [Int.fdiv_eq_ediv_of_nonneg _ (Int.le_of_lt hp)]
  have : base ls m + cnt ls m ≤ (base ls n + (s : Int)) / 2 ^ (n - m) := by
    rw [Int.le_ediv_iff_mul_le hp]
    omega
  omega
def MT (ls : List Int) : Nat → Int
  | 0 => 0
  | k + 1 => MT ls k + (if 0 < ls.getD k 0 then 2 ^ (15 - lenOf ls k) else 0)
end Go.ag
namespace Go.ak
def az (B : List Int) : Prop := ∀ x ∈ B, 0 ≤ x ∧ x < 256
theorem az.get {B : List Int} (h : az B) (i : Nat) : 0 ≤ B.getD i 0 ∧ B.getD i 0 < 256 := by
  rcases Nat.lt_or_ge i B.length with hi | hi
  · exact h _ (by simp [List.getD_eq_getElem?_getD, hi])
  · simp [List.getD_eq_getElem?_getD, hi]
def jk (B : List Int) (i : Nat) : Int := B.getD (i / 8) 0 / 2 ^ (i % 8) % 2
theorem mJ (B : List Int) (i : Nat) : 0 ≤ jk B i ∧ jk B i ≤ 1 := by unfold jk; omega
def aV (B : List Int) (at_ : Nat) : Nat → Int
  | 0 => 0
  | n + 1 => aV B at_ n + jk B (at_ + n) * 2 ^ n
theorem cJ (B : List Int) (at_ : Nat) : ∀ n : Nat, 0 ≤ aV B at_ n ∧ aV B at_ n < 2 ^ n
  | 0 => by simp [aV]
  | n + 1 => by
    have h := cJ B at_ n
    have h2 := mJ B (at_ + n)
    have hp : (0 : Int) < 2 ^ n := Int.pow_pos (by decide)
    simp only [aV]
    rw [Int.pow_succ]
    have h3 : jk B (at_ + n) = 0 ∨ jk B (at_ + n) = 1 := by omega
    rcases h3 with e | e <;> rw [e] <;> omega
theorem qV {n : Nat} (h : n ≤ 24) : (2 : Int) ^ n ≤ 16777216 := by
  have : (2 : Nat) ^ n ≤ 2 ^ 24 := Nat.pow_le_pow_right (by decide) h
  have e : ((2 : Int) ^ n) = ((2 ^ n : Nat) : Int) := by simp
  rw [e]
  omega
theorem eF (k : Nat) (a : Nat) : (BitVec.ofInt k (a : Int)).toNat = a % 2 ^ k := by
  rw [BitVec.toNat_ofInt]
  have : ((a : Int) % ((2 ^ k : Nat) : Int)) = ((a % 2 ^ k : Nat) : Int) := by simp
  omega
theorem pg {a b : Nat} (ha : a < 2 ^ 62) (hb : b < 2 ^ 62) : IntKind.i64.wrap ((BitVec.ofInt IntKind.i64.bits (a : Int) ||| BitVec.ofInt IntKind.i64.bits (b : Int)).toNat : Int) = ((a ||| b : Nat) : Int) := by
  have e : IntKind.i64.bits = 64 := rfl
  rw [e, BitVec.toNat_or, eF, eF, Nat.mod_eq_of_lt (by omega), Nat.mod_eq_of_lt (by omega)]
  have := Nat.or_lt_two_pow ha hb
  exact Sl.gU (by omega) (by omega)
theorem Nn {x b : Int} {n : Nat} (h0 : 0 ≤ x) (h1 : x < 2 ^ n) (hb : 0 ≤ b ∧ b ≤ 1) (hn : n ≤ 24) : IntKind.i64.wrap ((BitVec.ofInt IntKind.i64.bits x ||| BitVec.ofInt IntKind.i64.bits (b * 2 ^ n)).toNat : Int) = x + b * 2 ^ n := by
  obtain ⟨a, rfl⟩ : ∃ a : Nat, x = (a : Int) := ⟨x.toNat, by omega⟩
  obtain ⟨c, rfl⟩ : ∃ c : Nat, b = (c : Int) := ⟨b.toNat, by omega⟩
  have hp := qV hn
  have e1 : (c : Int) * 2 ^ n = ((2 ^ n * c : Nat) : Int) := by rw [Nat.mul_comm]; simp
  have ha : a < 2 ^ n := by
    have : ((a : Nat) : Int) < ((2 ^ n : Nat) : Int) := by simpa using h1
    omega
  have hpn : 2 ^ n ≤ 16777216 := by
    have : ((2 ^ n : Nat) : Int) ≤ 16777216 := by simpa using hp
    omega
  have hc : 2 ^ n * c ≤ 16777216 := by
    have : c = 0 ∨ c = 1 := by omega
    rcases this with rfl | rfl <;> omega
  rw [e1, pg (by omega) (by omega), Nat.or_comm, ← Nat.two_pow_add_eq_or_of_lt ha]
  omega
theorem CE {x b : Int} (h0 : 0 ≤ x) (h1 : x < 2 ^ 40) (hb : 0 ≤ b ∧ b ≤ 1) : IntKind.i64.wrap ((BitVec.ofInt IntKind.i64.bits (2 * x) ||| BitVec.ofInt IntKind.i64.bits b).toNat : Int) = 2 * x + b := by
  obtain ⟨a, rfl⟩ : ∃ a : Nat, x = (a : Int) := ⟨x.toNat, by omega⟩
  obtain ⟨c, rfl⟩ : ∃ c : Nat, b = (c : Int) := ⟨b.toNat, by omega⟩
  have e1 : 2 * (a : Int) = ((2 ^ 1 * a : Nat) : Int) := by omega
  rw [e1, pg (by omega) (by omega), ← Nat.two_pow_add_eq_or_of_lt (by omega)]
  omega
theorem vJ {x : Int} (h0 : 0 ≤ x) (h1 : x < 256) : IntKind.u8.wrap ((BitVec.ofInt IntKind.u8.bits x &&& BitVec.ofInt IntKind.u8.bits 1).toNat : Int) = x % 2 := by
  obtain ⟨a, rfl⟩ : ∃ a : Nat, x = (a : Int) := ⟨x.toNat, by omega⟩
  have e : IntKind.u8.bits = 8 := rfl
  have e1 : BitVec.ofInt 8 1 = BitVec.ofInt 8 ((1 : Nat) : Int) := rfl
  rw [e, e1, BitVec.toNat_and, eF, eF, Nat.mod_eq_of_lt (by omega)]
  have : a &&& (1 % 2 ^ 8) = a % 2 := Nat.and_one_is_mod a
  rw [this]
  have e2 : IntKind.u8.wrap (((a % 2 : Nat)) : Int) = ((a % 2 : Nat) : Int) % 256 := by simp [IntKind.wrap, IntKind.bits, IntKind.signed]
  rw [e2]
  omega
theorem IG {x : Int} {k : Nat} (h0 : 0 ≤ x) (hk : k < 8) {d : Int} (hd : d = (k : Int)) : x.fdiv (2 ^ (min d.toNat IntKind.u8.bits)) = x / 2 ^ k := by
  have e : min d.toNat IntKind.u8.bits = k := by
    have : IntKind.u8.bits = 8 := rfl
    omega
  rw [e, Int.fdiv_eq_ediv_of_nonneg _ (Int.le_of_lt (Int.pow_pos (by decide)))]
theorem MQ {b : Int} {n : Nat} (hb : 0 ≤ b ∧ b ≤ 1) (hn : n ≤ 24) {d : Int} (hd : d = (n : Int)) : IntKind.i64.wrap (b * 2 ^ (min d.toNat IntKind.i64.bits)) = b * 2 ^ n := by
  have e : min d.toNat IntKind.i64.bits = n := by
    have : IntKind.i64.bits = 64 := rfl
    omega
  rw [e]
  have hp := qV hn
  have h0 : (0 : Int) < 2 ^ n := Int.pow_pos (by decide)
  have h3 : b = 0 ∨ b = 1 := by omega
  rcases h3 with e | e <;> rw [e] <;> exact Sl.gU (by omega) (by omega)
theorem Eu {x : Int} (h0 : 0 ≤ x) (h1 : x < 2 ^ 40) : IntKind.i64.wrap (x * 2 ^ (min (1 : Int).toNat IntKind.i64.bits)) = 2 * x := by
  rw [show min (1 : Int).toNat IntKind.i64.bits = 1 from rfl, Int.pow_one]
  rw [Sl.gU (by omega) (by omega)]
  omega
theorem wC {x : Int} (h0 : 0 ≤ x) (h1 : x < 256) (k : Nat) : 0 ≤ x / 2 ^ k ∧ x / 2 ^ k < 256 := by
  have hp : (0 : Int) < 2 ^ k := Int.pow_pos (by decide)
  have h2 := Int.ediv_nonneg h0 (Int.le_of_lt hp)
  have h3 := Int.ediv_le_self (2 ^ k) h0
  omega
end Go.ak
namespace Go.Sl
theorem lq {n : Int} (h1 : 0 ≤ n) (h2 : n < 256) : IntKind.u8.wrap n = n := by
  have e : IntKind.u8.wrap n = n % 256 := by simp [IntKind.wrap, IntKind.bits, IntKind.signed]
  rw [e]; omega
end Go.Sl
namespace Go.ak
def acc (B : List Int) (at_ : Nat) : Nat → Int
  | 0 => 0
  | n + 1 => 2 * acc B at_ n + jk B (at_ + n)
theorem qf (B : List Int) (at_ : Nat) : ∀ n : Nat, 0 ≤ acc B at_ n ∧ acc B at_ n < 2 ^ n
  | 0 => by simp [acc]
  | n + 1 => by
    have h := qf B at_ n
    have h2 := mJ B (at_ + n)
    simp only [acc]
    rw [Int.pow_succ]
    omega
theorem wU (B : List Int) (a : Nat) : aV B a 1 = jk B a := by simp [aV]
end Go.ak
namespace Go.ag
open Go.ak
inductive TR where
  | va (n : Nat) (s : Int)
  | short (n : Nat)
  | none_ (n : Nat)
def mr (ls B : List Int) (at_ : Nat) : Nat → Nat → TR
  | 0, n => .none_ n
  | r + 1, n => if at_ + n < 8 * B.length then (if acc B at_ (n + 1) - base ls (n + 1) < cnt ls (n + 1) then .va (n + 1) ((ord ls).getD (off ls (n + 1) + (acc B at_ (n + 1) - base ls (n + 1)).toNat) 0) else mr ls B at_ r (n + 1)) else .short n
def lj (ls : List Int) : Nat := (dj ls).toNat
def tk (ls B : List Int) (at_ : Nat) : TR := mr ls B at_ (lj ls) 0
structure Tk (ls B : List Int) (at_ n : Nat) : Prop where
  le : n ≤ lj ls
  eq : tk ls B at_ = mr ls B at_ (lj ls - n) n
  ge : base ls n + cnt ls n ≤ acc B at_ n
  room : at_ + n ≤ 8 * B.length
theorem Ej {ls B : List Int} {at_ : Nat} (h : at_ ≤ 8 * B.length) : Tk ls B at_ 0 := ⟨Nat.zero_le _, rfl, by simp [base, cnt, acc], h⟩
section
variable {ls B : List Int} {at_ n : Nat}
theorem Tk.none (h : Tk ls B at_ n) (hm : lj ls ≤ n) : tk ls B at_ = .none_ n := by
  rw [h.eq, show lj ls - n = 0 by omega]; rfl
theorem Tk.short (h : Tk ls B at_ n) (hm : n < lj ls) (hx : 8 * B.length ≤ at_ + n) : tk ls B at_ = .short n := by
  rw [h.eq, show lj ls - n = (lj ls - (n + 1)) + 1 by omega]
  simp only [mr]
  rw [if_neg (by omega)]
theorem Tk.va (h : Tk ls B at_ n) (hm : n < lj ls) (hx : at_ + n < 8 * B.length) (hl : acc B at_ (n + 1) - base ls (n + 1) < cnt ls (n + 1)) : tk ls B at_ = .va (n + 1) ((ord ls).getD (off ls (n + 1) + (acc B at_ (n + 1) - base ls (n + 1)).toNat) 0) := by
  rw [h.eq, show lj ls - n = (lj ls - (n + 1)) + 1 by omega]
  simp only [mr]
  rw [if_pos hx, if_pos hl]
theorem Tk.OU (h : Tk ls B at_ n) (hm : n < lj ls) (hx : at_ + n < 8 * B.length) (hl : ¬ acc B at_ (n + 1) - base ls (n + 1) < cnt ls (n + 1)) : Tk ls B at_ (n + 1) := by
  refine ⟨hm, ?_, by omega, by omega⟩
  rw [h.eq, show lj ls - n = (lj ls - (n + 1)) + 1 by omega]
  simp only [mr]
  rw [if_pos hx, if_neg hl]
theorem Tk.nn (h : Tk ls B at_ n) : base ls (n + 1) ≤ acc B at_ (n + 1) := by
  have h1 := h.ge
  have h2 := mJ B (at_ + n)
  simp only [base, acc]
  omega
end
theorem Ip (ls : List Int) : dj ls = 0 ∨ dj ls ∈ ls := by
  have key : ∀ (l : List Int) (a : Int), l.foldl (fun a x => if a < x then x else a) a = a ∨ l.foldl (fun a x => if a < x then x else a) a ∈ l := by
    intro l
    induction l with
    | nil => intro a; exact .inl rfl
    | cons y l ih =>
      intro a
      simp only [List.foldl_cons]
      rcases ih (if a < y then y else a) with h | h
      · rw [h]
        split
        · exact .inr (List.mem_cons_self ..)
        · exact .inl rfl
      · exact .inr (List.mem_cons_of_mem _ h)
  exact key ls 0
theorem Lz {ls : List Int} (hV : Vl ls) : lj ls ≤ 15 := by
  unfold lj
  rcases Ip ls with h | h
  · omega
  · have := hV.2 _ h; omega
theorem Ju (ls : List Int) : dj ls = (lj ls : Int) := by
  have := yL ls
  unfold lj; omega
theorem Ba {ls : List Int} (hV : Vl ls) {m : Nat} (hm : m ≤ 15) : off ls (m + 1) ≤ 320 := by
  have h1 := kX ls (show m + 1 ≤ 16 by omega)
  have h2 := wF hV
  have h3 := uF ls
  have h4 := hV.1
  rw [tX] at h2
  omega
theorem KO {ls : List Int} {m : Nat} (hm : m < 15) : (cQ ls).getD ((m : Int) + 1).toNat 0 = cnt ls (m + 1) := by
  rw [show ((m : Int) + 1).toNat = m + 1 by omega, oC (by omega)]
theorem Mn {ls : List Int} {m : Nat} {a : Int} (hm : m < 15) (h0 : base ls (m + 1) ≤ a) (hl : a - base ls (m + 1) < cnt ls (m + 1)) : off ls (m + 1) + (a - base ls (m + 1)).toNat < (ord ls).length := by
  have := HB ls m
  exact Me ls hm (by omega)
theorem sa {ls B : List Int} {at_ m : Nat} {s : Int} : ∀ (r n : Nat), mr ls B at_ r n = .va m s → n < m ∧ at_ + m ≤ 8 * B.length
  | 0, n, h => by simp [mr] at h
  | r + 1, n, h => by
    simp only [mr] at h
    split at h
    · split at h
      · cases h; omega
      · have := sa r (n + 1) h; omega
    · cases h
end Go.ag
namespace Go.ak
structure Pk (bs out : List Int) (fr : Nat) : Prop where
  le : fr ≤ 8
  len : 8 * out.length = bs.length + fr
  te : az out
  get : ∀ i, i < bs.length → jk out i = bs.getD i 0
  zero : ∀ i, bs.length ≤ i → jk out i = 0
def Sh (x b : Int) (p : Nat) : Int := ((x.toNat ||| b.toNat * 2 ^ p : Nat) : Int)
end Go.ak
namespace Go.ag
open Go.ak
def wb (ls : List Int) (s : Int) : List Int := (List.range (kH ls s).toNat).map (fun i => mi ls s / 2 ^ ((kH ls s).toNat - 1 - i) % 2)
def ins (ls syms : List Int) : List Int := (syms.map (· % 330)).filter (fun s => decide (s < ls.length) && n6 ls s)
def bits (ls : List Int) (l : List Int) : List Int := l.flatMap (wb ls)
end Go.ag
namespace Go.ak
def lR (x : Int) (n : Nat) : List Int := (List.range n).map (fun i => x / 2 ^ i % 2)
theorem nO {x : Int} {k : Nat} (hk : k ≤ 60) {d : Int} (hd : d = (k : Int)) : x.fdiv (2 ^ (min d.toNat IntKind.i64.bits)) = x / 2 ^ k := by
  have e : min d.toNat IntKind.i64.bits = k := by
    have : IntKind.i64.bits = 64 := rfl
    omega
  rw [e, Int.fdiv_eq_ediv_of_nonneg _ (Int.le_of_lt (Int.pow_pos (by decide)))]
end Go.ak
namespace Go.ad
open Go.ak Go.ag
structure St where
  at_ : Nat
  out : List Int
  kind : Int
  left : Nat
  last : Bool
  lits : List Int
  eQ : List Int
  aB : Nat
  cE : Nat
  ended : Bool
def gf : List Int := List.replicate 144 8 ++ List.replicate 112 9 ++ List.replicate 24 7 ++ List.replicate 8 8
def ly : List Int := List.replicate 32 5
def sym (ls B : List Int) (a : Nat) : Except Int (Int × Nat) := match tk ls B a with
  | .va n s => .ok (s, a + n)
  | .short _ => .error 2
  | .none_ _ => .error 4
def dL (a : Nat) : Nat := (a + 7) / 8 * 8
def mw : List Int := [16, 17, 18, 0, 8, 7, 9, 6, 10, 5, 11, 4, 12, 3, 13, 2, 14, 1, 15]
def iM (B : List Int) (a : Nat) : Nat → List Int
  | 0 => List.replicate 19 0
  | i + 1 => (iM B a i).set (mw.getD i 0).toNat (aV B (a + 3 * i) 3)
def pq (s : Int) : Nat := if s = 16 then 2 else if s = 17 then 3 else 7
def yn (s : Int) : Int := if s = 18 then 11 else 3
def K6 (s : Int) (l : List Int) : Int := if s = 16 then l.getD (l.length - 1) 0 else 0
def rep (B : List Int) (s : Int) (l : List Int) (a : Nat) : Except Int (Int × Int × Nat) :=
  if s < 16 then .ok (s, 1, a) else if 8 * B.length < a + pq s then .error 2 else if s = 16 ∧ l = [] then .error 4 else .ok (K6 s l, yn s + aV B a (pq s), a + pq s)
def kP (B c l : List Int) (a : Nat) : Except Int (List Int × Nat) := match sym c B a with
  | .error e => .error e
  | .ok (s, a) => match rep B s l a with
    | .error e => .error e
    | .ok (x, n, a) => .ok (l ++ List.replicate n.toNat x, a)
def fE (B c : List Int) (tot : Nat) : Nat → List Int → Nat → Except Int (List Int × Nat)
  | 0, l, a => .ok (l, a)
  | f + 1, l, a => if l.length < tot then (match kP B c l a with
    | .error e => .error e
    | .ok (l', a') => if l'.length ≤ tot then fE B c tot f l' a' else .error 4) else .ok (l, a)
def hL (B : List Int) (a : Nat) : Nat := 257 + (aV B a 5).toNat
def hD (B : List Int) (a : Nat) : Nat := 1 + (aV B (a + 5) 5).toNat
def hC (B : List Int) (a : Nat) : Nat := 4 + (aV B (a + 10) 4).toNat
def told (B : List Int) (a : Nat) : Except Int (Nat × List Int × List Int) :=
  if 8 * B.length < a + 14 then .error 2 else
  if ¬ (hL B a ≤ 286 ∧ hD B a ≤ 30) then .error 4 else
  if 8 * B.length < a + 14 + 3 * hC B a then .error 2 else
  if cu (iM B (a + 14) (hC B a)) ≠ 0 then .error 4 else
  match fE B (iM B (a + 14) (hC B a)) (hL B a + hD B a) (hL B a + hD B a) [] (a + 14 + 3 * hC B a) with
  | .error e => .error e
  | .ok (l, a') => if cu (l.take (hL B a)) ≠ 0 ∨ cu (l.drop (hL B a)) ≠ 0 ∨ l.getD 256 0 = 0 then .error 4 else .ok (a', l.take (hL B a), l.drop (hL B a))
def dR (B : List Int) (s : St) : Except Int St :=
  if 8 * B.length < s.at_ + 3 then .error 2 else
  if aV B (s.at_ + 1) 2 = 0 then
    (if 8 * B.length < dL (s.at_ + 3) + 32 then .error 2 else
     if aV B (dL (s.at_ + 3)) 16 = 65535 - aV B (dL (s.at_ + 3) + 16) 16 then .ok { s with at_ := dL (s.at_ + 3) + 32, kind := 0, left := (aV B (dL (s.at_ + 3)) 16).toNat, last := decide (aV B s.at_ 1 = 1) } else .error 4) else
  if aV B (s.at_ + 1) 2 = 1 then .ok { s with at_ := s.at_ + 3, kind := 1, last := decide (aV B s.at_ 1 = 1), lits := gf, eQ := ly } else
  if aV B (s.at_ + 1) 2 = 2 then (match told B (s.at_ + 3) with
    | .error e => .error e
    | .ok (a, l, d) => .ok { s with at_ := a, kind := 2, last := decide (aV B s.at_ 1 = 1), lits := l, eQ := d }) else .error 4
def pZ (s : Int) : Int := if s < 8 then 3 + s else if s = 28 then 258 else 3 + (4 + s % 4) * 2 ^ (s / 4 - 1).toNat
def np (s : Int) : Nat := if s < 8 ∨ s = 28 then 0 else (s / 4 - 1).toNat
def tP (d : Int) : Int := if d < 4 then 1 + d else 1 + (2 + d % 2) * 2 ^ (d / 2 - 1).toNat
def ng (d : Int) : Nat := if d < 4 then 0 else (d / 2 - 1).toNat
def fa (de : Int) (s : St) (y : Int) : Except Int St := if (s.out.length : Int) < de then .ok { s with out := s.out ++ [y] } else .error 6
def fb (B : List Int) (de : Int) (s : St) : Except Int St := match sym s.lits B s.at_ with
  | .error e => .error e
  | .ok (y, a) =>
    if y < 256 then fa de { s with at_ := a } y else
    if y = 256 then .ok { s with at_ := a, kind := -1, ended := s.last } else
    if 286 ≤ y then .error 4 else
    if 8 * B.length < a + np (y - 257) then .error 2 else
    match sym s.eQ B (a + np (y - 257)) with
    | .error e => .error e
    | .ok (d, a3) => if 30 ≤ d then .error 4 else if 8 * B.length < a3 + ng d then .error 2 else
      if tP d + aV B a3 (ng d) ≤ s.out.length then .ok { s with at_ := a3 + ng d, aB := (pZ (y - 257) + aV B a (np (y - 257))).toNat, cE := (tP d + aV B a3 (ng d)).toNat } else .error 4
def one (B : List Int) (de : Int) (s : St) : Except Int St :=
  if 0 < s.aB then fa de { s with aB := s.aB - 1 } (s.out.getD (s.out.length - s.cE) 0) else
  if s.kind = -1 then dR B s else
  if s.kind ≠ 0 then fb B de s else
  if s.left = 0 then .ok { s with kind := -1, ended := s.last } else
  if 8 * B.length < s.at_ + 8 then .error 2 else fa de { s with at_ := s.at_ + 8, left := s.left - 1 } (aV B s.at_ 8)
def start : St := ⟨0, [], -1, 0, false, [], [], 0, 0, false⟩
abbrev Oc := Except Int (List Int × Nat)
inductive ka (B : List Int) (de : Int) : St → Oc → Prop
  | done {s : St} : s.ended = true → ka B de s (.ok (s.out, (s.at_ + 7) / 8))
  | step {s s' : St} {o : Oc} : s.ended = false → one B de s = .ok s' → ka B de s' o → ka B de s o
  | fail {s : St} {e : Int} : s.ended = false → one B de s = .error e → ka B de s (.error e)
theorem ka.AO {B : List Int} {de : Int} {s : St} {o : Oc} (h : ka B de s o) : ∀ {o' : Oc}, ka B de s o' → o = o' := by
  induction h with
  | done h1 => intro o' h; cases h with
    | done _ => rfl
    | step h2 _ _ => rw [h1] at h2; cases h2
    | fail h2 _ => rw [h1] at h2; cases h2
  | step h1 h2 h3 ih => intro o' h; cases h with
    | done h4 => rw [h1] at h4; cases h4
    | step _ h5 h6 => rw [h2] at h5; cases h5; exact ih h6
    | fail _ h5 => rw [h2] at h5; cases h5
  | fail h1 h2 => intro o' h; cases h with
    | done h4 => rw [h1] at h4; cases h4
    | step _ h5 h6 => rw [h2] at h5; cases h5
    | fail _ h5 => rw [h2] at h5; cases h5; rfl
def iA (B : List Int) (de : Int) (s s' : St) : Prop := ∀ o, ka B de s' o → ka B de s o
theorem iA.refl (B : List Int) (de : Int) (s : St) : iA B de s s := fun _ h => h
theorem iA.trans {B : List Int} {de : Int} {s s' s'' : St} (h : iA B de s s') (k : iA B de s' s'') : iA B de s s'' := fun o r => h o (k o r)
theorem iA.one {B : List Int} {de : Int} {s s' : St} (h : s.ended = false) (k : one B de s = .ok s') : iA B de s s' := fun o r => .step h k r
def js (ls : List Int) : Except Int Unit := if cu ls = 0 then .ok () else .error 4
section
variable {B l : List Int} {s : Int} {a : Nat}
theorem Kr (h : s < 16) : rep B s l a = .ok (s, 1, a) := if_pos h
theorem pL (h : ¬ s < 16) (hx : 8 * B.length < a + pq s) : rep B s l a = .error 2 := by unfold rep; rw [if_neg h, if_pos hx]
theorem Eb (h : s = 16) (hl : l = []) (hx : ¬ 8 * B.length < a + pq s) : rep B s l a = .error 4 := by unfold rep; rw [if_neg (by omega), if_neg hx, if_pos ⟨h, hl⟩]
theorem xB (h : ¬ s < 16) (hx : ¬ 8 * B.length < a + pq s) (hl : ¬ (s = 16 ∧ l = [])) : rep B s l a = .ok (K6 s l, yn s + aV B a (pq s), a + pq s) := by unfold rep; rw [if_neg h, if_neg hx, if_neg hl]
end
theorem ya (B : List Int) (a : Nat) : ∀ k, (iM B a k).length = 19
  | 0 => by simp [iM]
  | k + 1 => by simp [iM, ya B a k]
theorem yg : cu gf = 0 := by decide +kernel
theorem yC : cu ly = 0 := by decide +kernel
def ji : List (Int × Int) := [(8, 144), (9, 112), (7, 24), (8, 8)]
def iP : Nat → List Int
  | 0 => []
  | k + 1 => iP k ++ List.replicate (ji.getD k (0, 0)).2.toNat (ji.getD k (0, 0)).1
theorem Bh : iP 4 = gf := by decide +kernel
theorem Hc : ∀ k, k ≤ 4 → (iP k).length ≤ 288 := by
  intro k hk
  have : k = 0 ∨ k = 1 ∨ k = 2 ∨ k = 3 ∨ k = 4 := by omega
  rcases this with rfl | rfl | rfl | rfl | rfl <;> decide +kernel
theorem HJ {k : Nat} (h : k < 19) : 0 ≤ mw.getD k 0 ∧ mw.getD k 0 < 19 := by
  have : ∀ k, k < 19 → 0 ≤ mw.getD k 0 ∧ mw.getD k 0 < 19 := by decide
  exact this k h
theorem Bx (B : List Int) (a : Nat) : 257 + aV B a 5 = (hL B a : Int) ∧ 1 + aV B (a + 5) 5 = (hD B a : Int) ∧ 4 + aV B (a + 10) 4 = (hC B a : Int) ∧ hL B a ≤ 288 ∧ hD B a ≤ 32 ∧ hC B a ≤ 19 ∧ 4 ≤ hC B a ∧ 257 ≤ hL B a := by
  have h1 := cJ B a 5
  have h2 := cJ B (a + 5) 5
  have h3 := cJ B (a + 10) 4
  unfold hL hD hC
  omega
end Go.ad
namespace Go.ad
open Go.ak Go.ag
theorem gH {α : Type} (E : Except Int α) : (∃ e, E = .error e) ∨ ∃ x, E = .ok x := by
  cases E with
  | error e => exact .inl ⟨e, rfl⟩
  | ok x => exact .inr ⟨x, rfl⟩
theorem sa {ls B : List Int} {a : Nat} : ∀ {r n n' : Nat} {s : Int}, mr ls B a r n = .va n' s → n < n' ∧ a + n' ≤ 8 * B.length ∧ (s ∈ ord ls ∨ s = 0) := by
  intro r
  induction r with
  | zero => intro n n' s h; simp [mr] at h
  | succ r ih =>
    intro n n' s h
    simp only [mr] at h
    split at h
    · rename_i h1
      split at h
      · cases h
        refine ⟨by omega, by omega, ?_⟩
        rw [List.getD_eq_getElem?_getD]
        cases hh : (ord ls)[off ls (n + 1) + (acc B a (n + 1) - base ls (n + 1)).toNat]? with
        | none => exact .inr rfl
        | some x => exact .inl (List.mem_of_getElem? hh)
      · have := ih h; exact ⟨by omega, this.2.1, this.2.2⟩
    · cases h
theorem qk {ls B : List Int} {a a' : Nat} {s : Int} (hE : cu ls = 0) (h0 : 0 < ls.length) (h : sym ls B a = .ok (s, a')) : 0 ≤ s ∧ s < ls.length ∧ a < a' ∧ a' ≤ 8 * B.length := by
  unfold sym at h
  split at h
  · rename_i n s' hs
    cases h
    obtain ⟨h1, h2, h3⟩ := sa hs
    have : 0 ≤ s ∧ s < ls.length := by
      rcases h3 with h3 | rfl
      · obtain ⟨k1, k2, _⟩ := (uE (lQ hE).1).1 h3
        omega
      · omega
    omega
  · cases h
  · cases h
theorem xO {B l : List Int} {s x n : Int} {a a' : Nat} (ha : a ≤ 8 * B.length) (h : rep B s l a = .ok (x, n, a')) : 1 ≤ n ∧ n < 200 ∧ a ≤ a' ∧ a' ≤ 8 * B.length := by
  unfold rep at h
  split at h
  · cases h; omega
  split at h
  · cases h
  split at h
  · cases h
  cases h
  have hb := cJ B a (pq s)
  have : yn s + aV B a (pq s) < 200 ∧ 1 ≤ yn s := by
    unfold yn
    unfold pq at hb ⊢
    by_cases h1 : s = 16
    · rw [if_pos h1] at hb ⊢; rw [if_neg (by omega)]; omega
    · by_cases h2 : s = 17
      · rw [if_neg h1, if_pos h2] at hb ⊢; rw [if_neg (by omega)]; omega
      · rw [if_neg h1, if_neg h2] at hb ⊢; split <;> omega
  omega
section
variable {B c l l' : List Int} {tot f a a' : Nat} {e s x n : Int}
theorem nb (h : tot ≤ l.length) : fE B c tot f l a = .ok (l, a) := by
  cases f with
  | zero => rfl
  | succ f => simp only [fE]; rw [if_neg (by omega)]
theorem oZ (h : l.length < tot) (hf : tot ≤ f + l.length) (k : kP B c l a = .error e) : fE B c tot f l a = .error e := by
  obtain ⟨f, rfl⟩ : ∃ g, f = g + 1 := ⟨f - 1, by omega⟩
  simp only [fE]; rw [if_pos h, k]
theorem vb (h : l.length < tot) (hf : tot ≤ f + l.length) (k : kP B c l a = .ok (l', a')) (hl : l'.length ≤ tot) : fE B c tot f l a = fE B c tot (f - 1) l' a' := by
  obtain ⟨f, rfl⟩ : ∃ g, f = g + 1 := ⟨f - 1, by omega⟩
  simp only [fE]; rw [if_pos h, k]; simp only; rw [if_pos hl]; rfl
theorem wO (h : l.length < tot) (hf : tot ≤ f + l.length) (k : kP B c l a = .ok (l', a')) (hl : ¬ l'.length ≤ tot) : fE B c tot f l a = .error 4 := by
  obtain ⟨f, rfl⟩ : ∃ g, f = g + 1 := ⟨f - 1, by omega⟩
  simp only [fE]; rw [if_pos h, k]; simp only; rw [if_neg hl]
theorem sx (h : sym c B a = .error e) : kP B c l a = .error e := by unfold kP; rw [h]
theorem rM (h : sym c B a = .ok (s, a')) (k : rep B s l a' = .error e) : kP B c l a = .error e := by unfold kP; rw [h]; simp only; rw [k]
theorem mY {a'' : Nat} (h : sym c B a = .ok (s, a')) (k : rep B s l a' = .ok (x, n, a'')) : kP B c l a = .ok (l ++ List.replicate n.toNat x, a'') := by unfold kP; rw [h]; simp only; rw [k]
end
theorem zM (B c l : List Int) (a : Nat) : (∃ e, sym c B a = .error e) ∨ (∃ s a' e, sym c B a = .ok (s, a') ∧ rep B s l a' = .error e) ∨ (∃ s a' x n a'', sym c B a = .ok (s, a') ∧ rep B s l a' = .ok (x, n, a'')) := by
  rcases gH (sym c B a) with ⟨e, h⟩ | ⟨⟨s, a'⟩, h⟩
  · exact .inl ⟨e, h⟩
  · rcases gH (rep B s l a') with ⟨e, k⟩ | ⟨⟨x, n, a''⟩, k⟩
    · exact .inr (.inl ⟨s, a', e, h, k⟩)
    · exact .inr (.inr ⟨s, a', x, n, a'', h, k⟩)
def dh (B : List Int) (a : Nat) : List Int := iM B (a + 14) (hC B a)
def dI (B : List Int) (a : Nat) : Nat := hL B a + hD B a
def ew (B : List Int) (a : Nat) : Nat := a + 14 + 3 * hC B a
section
variable {B l : List Int} {a a' : Nat} {e : Int}
theorem tO (h : 8 * B.length < a + 14) : told B a = .error 2 := if_pos h
theorem vC (h : a + 14 ≤ 8 * B.length) (k : ¬ (hL B a ≤ 286 ∧ hD B a ≤ 30)) : told B a = .error 4 := by
  unfold told; rw [if_neg (by omega), if_pos k]
theorem Bc (h : a + 14 ≤ 8 * B.length) (k : hL B a ≤ 286 ∧ hD B a ≤ 30) (x : 8 * B.length < ew B a) : told B a = .error 2 := by
  unfold told; rw [if_neg (by omega), if_neg (fun h => h k)]; exact if_pos x
theorem BD (h : a + 14 ≤ 8 * B.length) (k : hL B a ≤ 286 ∧ hD B a ≤ 30) (x : ew B a ≤ 8 * B.length) (y : cu (dh B a) ≠ 0) : told B a = .error 4 := by
  unfold told; rw [if_neg (by omega), if_neg (fun h => h k), if_neg (by unfold ew at x; omega)]; exact if_pos y
theorem tV (h : a + 14 ≤ 8 * B.length) (k : hL B a ≤ 286 ∧ hD B a ≤ 30) (x : ew B a ≤ 8 * B.length) (y : cu (dh B a) = 0) : told B a = (match fE B (dh B a) (dI B a) (dI B a) [] (ew B a) with
    | .error e => .error e
    | .ok (l, a') => if cu (l.take (hL B a)) ≠ 0 ∨ cu (l.drop (hL B a)) ≠ 0 ∨ l.getD 256 0 = 0 then .error 4 else .ok (a', l.take (hL B a), l.drop (hL B a))) := by
  unfold told; rw [if_neg (by omega), if_neg (fun h => h k), if_neg (by unfold ew at x; omega)]; exact if_neg (fun h => h y)
theorem tz (h : a + 14 ≤ 8 * B.length) (k : hL B a ≤ 286 ∧ hD B a ≤ 30) (x : ew B a ≤ 8 * B.length) (y : cu (dh B a) = 0) (z : fE B (dh B a) (dI B a) (dI B a) [] (ew B a) = .error e) : told B a = .error e := by
  rw [tV h k x y, z]
theorem tD (h : a + 14 ≤ 8 * B.length) (k : hL B a ≤ 286 ∧ hD B a ≤ 30) (x : ew B a ≤ 8 * B.length) (y : cu (dh B a) = 0) (z : fE B (dh B a) (dI B a) (dI B a) [] (ew B a) = .ok (l, a')) (q : cu (l.take (hL B a)) ≠ 0 ∨ cu (l.drop (hL B a)) ≠ 0 ∨ l.getD 256 0 = 0) : told B a = .error 4 := by
  rw [tV h k x y, z]; exact if_pos q
theorem AM (h : a + 14 ≤ 8 * B.length) (k : hL B a ≤ 286 ∧ hD B a ≤ 30) (x : ew B a ≤ 8 * B.length) (y : cu (dh B a) = 0) (z : fE B (dh B a) (dI B a) (dI B a) [] (ew B a) = .ok (l, a')) (q1 : cu (l.take (hL B a)) = 0) (q2 : cu (l.drop (hL B a)) = 0) (q3 : l.getD 256 0 ≠ 0) : told B a = .ok (a', l.take (hL B a), l.drop (hL B a)) := by
  rw [tV h k x y, z]; exact if_neg (fun h => by rcases h with h | h | h; exact h q1; exact h q2; exact q3 h)
end
theorem ja (B : List Int) (a : Nat) : (dh B a).length = 19 := ya _ _ _
theorem Io {k : Nat} (h : k < 4) : (ji.getD k (0, 0)).2 = ((ji.getD k (0, 0)).2.toNat : Int) ∧ (ji.getD k (0, 0)).2.toNat < 200 := by
  have : ∀ k, k < 4 → (ji.getD k (0, 0)).2 = ((ji.getD k (0, 0)).2.toNat : Int) ∧ (ji.getD k (0, 0)).2.toNat < 200 := by decide
  exact this k h
theorem yj {ls : List Int} (hE : cu ls = 0) (i : Nat) : 0 ≤ ls.getD i 0 := by
  have hV := (lQ hE).1
  rw [List.getD_eq_getElem?_getD]
  cases h : ls[i]? with
  | none => exact Int.le_refl _
  | some x => exact (hV.2 x (List.mem_of_getElem? h)).1
theorem getD_take {l : List Int} {n i : Nat} (h : i < n) : (l.take n).getD i 0 = l.getD i 0 := by
  simp [List.getD_eq_getElem?_getD, List.getElem?_take, h]
end Go.ad
namespace Go.ad
open Go.ak
theorem Cl (k : Nat) : iP (k + 1) = iP k ++ List.replicate (ji.getD k (0, 0)).2.toNat (ji.getD k (0, 0)).1 := rfl
theorem L0 {k : Nat} (h : k < 4) : 0 ≤ (ji.getD k (0, 0)).2 ∧ (ji.getD k (0, 0)).2 < 200 := by have := Io h; omega
theorem DB (B : List Int) (a : Nat) : iM B a 0 = List.replicate 19 0 := rfl
theorem EE (B : List Int) (a k : Nat) : iM B a (k + 1) = (iM B a k).set (mw.getD k 0).toNat (aV B (a + 3 * k) 3) := rfl
theorem M8 (n a : Nat) : 8 * n < a + 5 ∨ (a + 5 ≤ 8 * n ∧ 8 * n < a + 10) ∨ (a + 10 ≤ 8 * n ∧ 8 * n < a + 14) ∨ a + 14 ≤ 8 * n := by omega
theorem OA (p q : Prop) : (p ∧ q) ∨ (p ∧ ¬ q) ∨ ¬ p := by
  rcases Classical.em p with h | h
  · rcases Classical.em q with k | k
    · exact .inl ⟨h, k⟩
    · exact .inr (.inl ⟨h, k⟩)
  · exact .inr (.inr h)
theorem xy (B : List Int) (a : Nat) : dI B a = hL B a + hD B a := rfl
theorem xD (B : List Int) (a : Nat) : ew B a = a + 14 + 3 * hC B a := rfl
theorem xj (B : List Int) (a : Nat) : dh B a = iM B (a + 14) (hC B a) := rfl
end Go.ad
namespace Go.ad
end Go.ad
namespace Go.ad
open Go.ak Go.ag
def ft (B : List Int) (s : Int) (a : Nat) : Except Int (Int × Nat) := if 29 ≤ s then .error 4 else if 8 * B.length < a + np s then .error 2 else .ok (pZ s + aV B a (np s), a + np s)
def eJ (B ds : List Int) (a : Nat) : Except Int (Int × Nat) := match sym ds B a with
  | .error e => .error e
  | .ok (d, a3) => if 30 ≤ d then .error 4 else if 8 * B.length < a3 + ng d then .error 2 else .ok (tP d + aV B a3 (ng d), a3 + ng d)
theorem qF (B : List Int) (a : Nat) : aV B a 0 = 0 := rfl
section
variable {B : List Int} {s : Int} {a : Nat}
theorem BC (h : 29 ≤ s) : ft B s a = .error 4 := if_pos h
def gQ (s : Int) : Nat := (s / 4 - 1).toNat
def gV (s : Int) : Nat := (s / 2 - 1).toNat
theorem yB (h : s < 8 ∨ s = 28) : np s = 0 := if_pos h
theorem Ge (h : 8 ≤ s) (h2 : s < 28) : np s = gQ s := if_neg (by omega)
theorem HL (h : s < 8) : pZ s = 3 + s := if_pos h
theorem Il (h : s = 28) : pZ s = 258 := by unfold pZ; rw [if_neg (by omega)]; exact if_pos h
theorem NR (h : 8 ≤ s) (h2 : s < 28) : pZ s = 3 + (4 + s % 4) * 2 ^ gQ s := by unfold pZ; rw [if_neg (by omega), if_neg (by omega)]; rfl
theorem Gv (h : s < 4) : ng s = 0 := if_pos h
theorem Fw (h : 4 ≤ s) : ng s = gV s := if_neg (by omega)
theorem HR (h : s < 4) : tP s = 1 + s := if_pos h
theorem My (h : 4 ≤ s) : tP s = 1 + (2 + s % 2) * 2 ^ gV s := if_neg (by omega)
theorem yp (h0 : 0 ≤ s) (h : s < 8) (ha : a ≤ 8 * B.length) : ft B s a = .ok (3 + s, a) := by
  unfold ft
  rw [if_neg (by omega), yB (.inl h), HL h, qF, Int.add_zero]; exact if_neg (by omega)
theorem yD (h : s = 28) (ha : a ≤ 8 * B.length) : ft B s a = .ok (258, a) := by
  unfold ft
  rw [if_neg (by omega), yB (.inr h), Il h, qF, Int.add_zero]; exact if_neg (by omega)
theorem uY (h : 8 ≤ s) (h2 : s < 28) (hx : 8 * B.length < a + gQ s) : ft B s a = .error 2 := by
  unfold ft
  rw [if_neg (by omega), Ge h h2]; exact if_pos hx
theorem AN (h : 8 ≤ s) (h2 : s < 28) (hx : a + gQ s ≤ 8 * B.length) : ft B s a = .ok (3 + (4 + s % 4) * 2 ^ gQ s + aV B a (gQ s), a + gQ s) := by
  unfold ft
  rw [if_neg (by omega), Ge h h2, NR h h2]; exact if_neg (by omega)
theorem vG (h : 8 ≤ s) (h2 : s < 28) : s / 4 - 1 = (gQ s : Int) ∧ gQ s ≤ 5 ∧ 1 ≤ gQ s := by unfold gQ; omega
theorem xP (h : 4 ≤ s) (h2 : s < 30) : s / 2 - 1 = (gV s : Int) ∧ gV s ≤ 13 ∧ 1 ≤ gV s := by unfold gV; omega
end
section
variable {B ds : List Int} {s e : Int} {a a3 : Nat}
theorem CJ (h : sym ds B a = .error e) : eJ B ds a = .error e := by unfold eJ; rw [h]
theorem zl (h : sym ds B a = .ok (s, a3)) (k : 30 ≤ s) : eJ B ds a = .error 4 := by unfold eJ; rw [h]; exact if_pos k
theorem xc (h : sym ds B a = .ok (s, a3)) (h0 : 0 ≤ s) (k : s < 4) (ha : a3 ≤ 8 * B.length) : eJ B ds a = .ok (1 + s, a3) := by
  unfold eJ; rw [h]; simp only; rw [if_neg (by omega), Gv k, HR k, qF, Int.add_zero]; exact if_neg (by omega)
theorem tg (h : sym ds B a = .ok (s, a3)) (h1 : 4 ≤ s) (h2 : s < 30) (hx : 8 * B.length < a3 + gV s) : eJ B ds a = .error 2 := by
  unfold eJ; rw [h]; simp only; rw [if_neg (by omega), Fw h1]; exact if_pos hx
theorem zj (h : sym ds B a = .ok (s, a3)) (h1 : 4 ≤ s) (h2 : s < 30) (hx : a3 + gV s ≤ 8 * B.length) : eJ B ds a = .ok (1 + (2 + s % 2) * 2 ^ gV s + aV B a3 (gV s), a3 + gV s) := by
  unfold eJ; rw [h]; simp only; rw [if_neg (by omega), Fw h1, My h1]; exact if_neg (by omega)
end
theorem mf {x : Int} {n : Nat} (h0 : 0 ≤ x) (h1 : x < 8) (hn : n ≤ 13) {d : Int} (hd : d = (n : Int)) : IntKind.i64.wrap (x * 2 ^ (min d.toNat IntKind.i64.bits)) = x * 2 ^ n ∧ 0 ≤ x * 2 ^ n ∧ x * 2 ^ n < 65536 := by
  have e : min d.toNat IntKind.i64.bits = n := by
    have : IntKind.i64.bits = 64 := rfl
    omega
  have hp : (2 : Int) ^ n ≤ 2 ^ 13 := by
    have := Nat.pow_le_pow_right (n := 2) (by decide) hn
    have e2 : ((2 : Int) ^ n) = ((2 ^ n : Nat) : Int) := by simp
    rw [e2]; exact_mod_cast this
  have h2 : (0 : Int) < 2 ^ n := Int.pow_pos (by decide)
  have h3 : 0 ≤ x * 2 ^ n := Int.mul_nonneg h0 (Int.le_of_lt h2)
  have h4 : x * 2 ^ n ≤ 7 * 2 ^ 13 := Int.le_trans (Int.mul_le_mul_of_nonneg_right (show x ≤ 7 by omega) (Int.le_of_lt h2)) (Int.mul_le_mul_of_nonneg_left hp (by decide))
  rw [e]
  exact ⟨Sl.gU (by omega) (by omega), h3, by omega⟩
theorem FB {x y : Int} (hx : 0 ≤ x ∧ x < 65536) (hy : 0 ≤ y ∧ y < 65536) : (IntKind.i64.wrap ((BitVec.ofInt IntKind.i64.bits x ^^^ BitVec.ofInt IntKind.i64.bits y).toNat : Int) = 65535) ↔ x = 65535 - y := by
  obtain ⟨a, rfl⟩ : ∃ a : Nat, x = (a : Int) := ⟨x.toNat, by omega⟩
  obtain ⟨b, rfl⟩ : ∃ b : Nat, y = (b : Int) := ⟨y.toNat, by omega⟩
  have e : IntKind.i64.bits = 64 := rfl
  have ha : a < 2 ^ 16 := by omega
  have hb : b < 2 ^ 16 := by omega
  have hlt : a ^^^ b < 2 ^ 16 := Nat.xor_lt_two_pow ha hb
  rw [e, BitVec.toNat_xor, eF, eF, Nat.mod_eq_of_lt (by omega), Nat.mod_eq_of_lt (by omega), Sl.gU (by omega) (by omega)]
  have hc : b ^^^ 65535 = 65535 - b := by
    have h1 : (BitVec.ofNat 16 b ^^^ BitVec.allOnes 16) = ~~~ (BitVec.ofNat 16 b) := BitVec.xor_allOnes
    have h2 := congrArg BitVec.toNat h1
    rw [BitVec.toNat_xor, BitVec.toNat_not, BitVec.toNat_ofNat, BitVec.toNat_allOnes, Nat.mod_eq_of_lt hb] at h2
    exact h2
  constructor
  · intro h
    have h' : a ^^^ b = 65535 := by omega
    have : a = 65535 ^^^ b := by rw [← h', Nat.xor_assoc, Nat.xor_self, Nat.xor_zero]
    rw [Nat.xor_comm, hc] at this
    omega
  · intro h
    have h' : a = 65535 - b := by omega
    rw [h', ← hc, Nat.xor_comm b, Nat.xor_assoc, Nat.xor_self, Nat.xor_zero]
    rfl
section
variable {B : List Int} {s : St} {e : Int}
theorem zD (h : 8 * B.length < s.at_ + 3) : dR B s = .error 2 := if_pos h
theorem vF (h : s.at_ + 3 ≤ 8 * B.length) (k : aV B (s.at_ + 1) 2 = 0) (hx : 8 * B.length < dL (s.at_ + 3) + 32) : dR B s = .error 2 := by
  unfold dR; rw [if_neg (by omega), if_pos k]; exact if_pos hx
theorem Bv (h : s.at_ + 3 ≤ 8 * B.length) (k : aV B (s.at_ + 1) 2 = 0) (hx : dL (s.at_ + 3) + 32 ≤ 8 * B.length) (hm : aV B (dL (s.at_ + 3)) 16 ≠ 65535 - aV B (dL (s.at_ + 3) + 16) 16) : dR B s = .error 4 := by
  unfold dR; rw [if_neg (by omega), if_pos k, if_neg (by omega)]; exact if_neg hm
theorem xJ (h : s.at_ + 3 ≤ 8 * B.length) (k : aV B (s.at_ + 1) 2 = 0) (hx : dL (s.at_ + 3) + 32 ≤ 8 * B.length) (hm : aV B (dL (s.at_ + 3)) 16 = 65535 - aV B (dL (s.at_ + 3) + 16) 16) : dR B s = .ok { s with at_ := dL (s.at_ + 3) + 32, kind := 0, left := (aV B (dL (s.at_ + 3)) 16).toNat, last := decide (aV B s.at_ 1 = 1) } := by
  unfold dR; rw [if_neg (by omega), if_pos k, if_neg (by omega)]; exact if_pos hm
theorem Fb (h : s.at_ + 3 ≤ 8 * B.length) (k : aV B (s.at_ + 1) 2 = 1) : dR B s = .ok { s with at_ := s.at_ + 3, kind := 1, last := decide (aV B s.at_ 1 = 1), lits := gf, eQ := ly } := by
  unfold dR; rw [if_neg (by omega), if_neg (by omega)]; exact if_pos k
theorem Ci (h : s.at_ + 3 ≤ 8 * B.length) (k : aV B (s.at_ + 1) 2 = 2) (t : told B (s.at_ + 3) = .error e) : dR B s = .error e := by
  unfold dR; rw [if_neg (by omega), if_neg (by omega), if_neg (by omega), if_pos k, t]
theorem Cb {a : Nat} {l d : List Int} (h : s.at_ + 3 ≤ 8 * B.length) (k : aV B (s.at_ + 1) 2 = 2) (t : told B (s.at_ + 3) = .ok (a, l, d)) : dR B s = .ok { s with at_ := a, kind := 2, last := decide (aV B s.at_ 1 = 1), lits := l, eQ := d } := by
  unfold dR; rw [if_neg (by omega), if_neg (by omega), if_neg (by omega), if_pos k, t]
theorem CW (h : s.at_ + 3 ≤ 8 * B.length) (k : aV B (s.at_ + 1) 2 ≠ 0) (k1 : aV B (s.at_ + 1) 2 ≠ 1) (k2 : aV B (s.at_ + 1) 2 ≠ 2) : dR B s = .error 4 := by
  unfold dR; rw [if_neg (by omega), if_neg k, if_neg k1]; exact if_neg k2
end
section
variable {B : List Int} {de : Int} {s : St} {y n f e : Int} {a a2 a3 : Nat}
theorem vr (h : sym s.lits B s.at_ = .error e) : fb B de s = .error e := by unfold fb; rw [h]
theorem ob (h : sym s.lits B s.at_ = .ok (y, a)) (k : y < 256) : fb B de s = fa de { s with at_ := a } y := by unfold fb; rw [h]; exact if_pos k
theorem qS (h : sym s.lits B s.at_ = .ok (y, a)) (k : y = 256) : fb B de s = .ok { s with at_ := a, kind := -1, ended := s.last } := by unfold fb; rw [h]; simp only; rw [if_neg (by omega)]; exact if_pos k
theorem ta (h : sym s.lits B s.at_ = .ok (y, a)) (k : 256 < y) : fb B de s = (match ft B (y - 257) a with
    | .error e => .error e
    | .ok (n, a2) => match eJ B s.eQ a2 with
      | .error e => .error e
      | .ok (f, a3) => if f ≤ s.out.length then .ok { s with at_ := a3, aB := n.toNat, cE := f.toNat } else .error 4) := by
  unfold fb ft; rw [h]; simp only
  rw [if_neg (by omega), if_neg (by omega)]
  by_cases h1 : 286 ≤ y
  · rw [if_pos h1, if_pos (show 29 ≤ y - 257 by omega)]
  · rw [if_neg h1, if_neg (show ¬ 29 ≤ y - 257 by omega)]
    by_cases h2 : 8 * B.length < a + np (y - 257)
    · rw [if_pos h2, if_pos h2]
    · rw [if_neg h2, if_neg h2]
      unfold eJ
      simp only
      cases hs : sym s.eQ B (a + np (y - 257)) with
      | error e => rfl
      | ok q =>
        obtain ⟨d, a3⟩ := q
        simp only
        by_cases h3 : 30 ≤ d
        · rw [if_pos h3, if_pos h3]
        · rw [if_neg h3, if_neg h3]
          by_cases h4 : 8 * B.length < a3 + ng d
          · rw [if_pos h4, if_pos h4]
          · rw [if_neg h4, if_neg h4]
theorem vu (h : sym s.lits B s.at_ = .ok (y, a)) (k : 256 < y) (l : ft B (y - 257) a = .error e) : fb B de s = .error e := by rw [ta h k, l]
theorem vy (h : sym s.lits B s.at_ = .ok (y, a)) (k : 256 < y) (l : ft B (y - 257) a = .ok (n, a2)) (w : eJ B s.eQ a2 = .error e) : fb B de s = .error e := by rw [ta h k, l]; simp only; rw [w]
theorem vv (h : sym s.lits B s.at_ = .ok (y, a)) (k : 256 < y) (l : ft B (y - 257) a = .ok (n, a2)) (w : eJ B s.eQ a2 = .ok (f, a3)) (q : ¬ f ≤ s.out.length) : fb B de s = .error 4 := by rw [ta h k, l]; simp only; rw [w]; exact if_neg q
theorem vm (h : sym s.lits B s.at_ = .ok (y, a)) (k : 256 < y) (l : ft B (y - 257) a = .ok (n, a2)) (w : eJ B s.eQ a2 = .ok (f, a3)) (q : f ≤ s.out.length) : fb B de s = .ok { s with at_ := a3, aB := n.toNat, cE := f.toNat } := by rw [ta h k, l]; simp only; rw [w]; exact if_pos q
end
theorem Bi {B : List Int} {s n : Int} {a a2 : Nat} (h0 : 0 ≤ s) (ha : a ≤ 8 * B.length) (h : ft B s a = .ok (n, a2)) : 3 ≤ n ∧ n < 400 ∧ a ≤ a2 ∧ a2 ≤ 8 * B.length := by
  by_cases h1 : s < 8
  · rw [yp h0 h1 ha] at h; cases h; omega
  by_cases h2 : 29 ≤ s
  · rw [BC h2] at h; cases h
  by_cases h3 : s = 28
  · rw [yD h3 ha] at h; cases h; omega
  by_cases h4 : a + gQ s ≤ 8 * B.length
  · rw [AN (by omega) (by omega) h4] at h; cases h
    obtain ⟨k1, k2, k3⟩ := vG (s := s) (by omega) (by omega)
    have hb := cJ B a (gQ s)
    have : gQ s = 1 ∨ gQ s = 2 ∨ gQ s = 3 ∨ gQ s = 4 ∨ gQ s = 5 := by omega
    rcases this with e | e | e | e | e <;> rw [e] at hb ⊢ <;> omega
  · rw [uY (by omega) (by omega) (by omega)] at h; cases h
theorem zN {B ds : List Int} {n : Int} {a a3 : Nat} (hE : cu ds = 0) (hd : 0 < ds.length) (h : eJ B ds a = .ok (n, a3)) : 1 ≤ n ∧ n < 100000 ∧ a ≤ a3 ∧ a3 ≤ 8 * B.length := by
  cases hs : sym ds B a with
  | error e => rw [CJ hs] at h; cases h
  | ok q =>
    obtain ⟨s, b⟩ := q
    have hg := qk hE hd hs
    by_cases h2 : 30 ≤ s
    · rw [zl hs h2] at h; cases h
    by_cases h1 : s < 4
    · rw [xc hs hg.1 h1 hg.2.2.2] at h; cases h; omega
    by_cases h4 : b + gV s ≤ 8 * B.length
    · rw [zj hs (by omega) (by omega) h4] at h; cases h
      obtain ⟨k1, k2, k3⟩ := xP (s := s) (by omega) (by omega)
      have hb := cJ B b (gV s)
      obtain ⟨_, m1, m2⟩ := mf (x := 2 + s % 2) (n := gV s) (by omega) (by omega) (by omega) rfl
      have hp : (2 : Int) ^ gV s ≤ 2 ^ 13 := by
        have := Nat.pow_le_pow_right (n := 2) (by decide) k2
        have e2 : ((2 : Int) ^ gV s) = ((2 ^ gV s : Nat) : Int) := by simp
        rw [e2]; exact_mod_cast this
      omega
    · rw [tg hs (by omega) (by omega) (by omega)] at h; cases h
end Go.ad
namespace Go.ad
open Go.ak Go.ag
theorem AK {B : List Int} {s : Int} {a : Nat} (h0 : 0 ≤ s) (ha : a ≤ 8 * B.length) : (∃ e, ft B s a = .error e) ∨ ∃ n a2 : Nat, ft B s a = .ok ((n : Int), a2) ∧ 3 ≤ n ∧ n < 400 ∧ a ≤ a2 ∧ a2 ≤ 8 * B.length := by
  rcases gH (ft B s a) with h | ⟨⟨n, a2⟩, h⟩
  · exact .inl h
  · have hg := Bi h0 ha h
    refine .inr ⟨n.toNat, a2, ?_, by omega, by omega, hg.2.2.1, hg.2.2.2⟩
    rw [h, Int.toNat_of_nonneg (by omega)]
theorem yc {B ds : List Int} {a : Nat} (hE : cu ds = 0) (hd : 0 < ds.length) : (∃ e, eJ B ds a = .error e) ∨ ∃ f a2 : Nat, eJ B ds a = .ok ((f : Int), a2) ∧ 1 ≤ f ∧ f < 100000 ∧ a ≤ a2 ∧ a2 ≤ 8 * B.length := by
  rcases gH (eJ B ds a) with h | ⟨⟨n, a2⟩, h⟩
  · exact .inl h
  · have hg := zN hE hd h
    refine .inr ⟨n.toNat, a2, ?_, by omega, by omega, hg.2.2.1, hg.2.2.2⟩
    rw [h, Int.toNat_of_nonneg (by omega)]
theorem w5 {B ls : List Int} {a : Nat} (hE : cu ls = 0) (hd : 0 < ls.length) : (∃ e, sym ls B a = .error e) ∨ ∃ (y : Int) (a2 : Nat), sym ls B a = .ok (y, a2) ∧ 0 ≤ y ∧ y < ls.length ∧ a < a2 ∧ a2 ≤ 8 * B.length := by
  rcases gH (sym ls B a) with h | ⟨⟨y, a2⟩, h⟩
  · exact .inl h
  · exact .inr ⟨y, a2, h, qk hE hd h⟩
structure Ok (B : List Int) (mo : Int) (s : St) : Prop where
  at_ : s.at_ ≤ 8 * B.length
  room : (s.out.length : Int) ≤ mo
  te : az s.out
  kind : s.kind = -1 ∨ s.kind = 0 ∨ s.kind = 1 ∨ s.kind = 2
  left : s.left < 65536
  Fx : 0 < s.kind → cu s.lits = 0 ∧ cu s.eQ = 0 ∧ 0 < s.lits.length ∧ 0 < s.eQ.length
  aB : s.aB < 400
  cE : 0 < s.aB → 1 ≤ s.cE ∧ s.cE ≤ s.out.length
theorem Cm {B l d : List Int} {a a' : Nat} (h : told B a = .ok (a', l, d)) : cu l = 0 ∧ cu d = 0 ∧ 0 < l.length ∧ 0 < d.length ∧ a < a' ∧ a' ≤ 8 * B.length := by
  by_cases h1 : 8 * B.length < a + 14
  · rw [tO h1] at h; cases h
  by_cases h2' : ¬ (hL B a ≤ 286 ∧ hD B a ≤ 30)
  · rw [vC (by omega) h2'] at h; cases h
  have h2 := Classical.not_not.1 h2'
  by_cases h3 : 8 * B.length < ew B a
  · rw [Bc (by omega) h2 h3] at h; cases h
  by_cases h4' : cu (dh B a) ≠ 0
  · rw [BD (by omega) h2 (by omega) h4'] at h; cases h
  have h4 := Classical.not_not.1 h4'
  cases h5 : fE B (dh B a) (dI B a) (dI B a) [] (ew B a) with
  | error e => rw [tz (by omega) h2 (by omega) h4 h5] at h; cases h
  | ok q =>
    obtain ⟨ls, a2⟩ := q
    by_cases h6 : cu (ls.take (hL B a)) ≠ 0 ∨ cu (ls.drop (hL B a)) ≠ 0 ∨ ls.getD 256 0 = 0
    · rw [tD (by omega) h2 (by omega) h4 h5 h6] at h; cases h
    · have h7 : cu (ls.take (hL B a)) = 0 := by
        rcases Classical.em (cu (ls.take (hL B a)) = 0) with k | k
        · exact k
        · exact (h6 (.inl k)).elim
      have h8 : cu (ls.drop (hL B a)) = 0 := by
        rcases Classical.em (cu (ls.drop (hL B a)) = 0) with k | k
        · exact k
        · exact (h6 (.inr (.inl k))).elim
      have h9 : ls.getD 256 0 ≠ 0 := fun k => h6 (.inr (.inr k))
      rw [AM (by omega) h2 (by omega) h4 h5 h7 h8 h9] at h
      cases h
      have key : ∀ (f : Nat) (l : List Int) (x : Nat), dI B a ≤ f + l.length → l.length ≤ dI B a → x ≤ 8 * B.length → fE B (dh B a) (dI B a) f l x = .ok (ls, a') → ls.length = dI B a ∧ x ≤ a' ∧ a' ≤ 8 * B.length := by
        intro f
        induction f with
        | zero => intro l x k1 k2 k3 k4; rw [nb (by omega)] at k4; cases k4; exact ⟨by omega, Nat.le_refl _, k3⟩
        | succ f ih =>
          intro l x k1 k2 k3 k4
          by_cases hl : dI B a ≤ l.length
          · rw [nb hl] at k4; cases k4; exact ⟨by omega, Nat.le_refl _, k3⟩
          · rcases zM B (dh B a) l x with ⟨e, hs⟩ | ⟨sy, x2, e, hs, hr⟩ | ⟨sy, x2, v, n, x3, hs, hr⟩
            · rw [oZ (by omega) k1 (sx hs)] at k4; cases k4
            · rw [oZ (by omega) k1 (rM hs hr)] at k4; cases k4
            · have hsg := qk h4 (by rw [ja]; omega) hs
              have hrg := xO hsg.2.2.2 hr
              by_cases hb : (l ++ List.replicate n.toNat v).length ≤ dI B a
              · rw [vb (by omega) k1 (mY hs hr) hb] at k4
                have := ih _ _ (by rw [List.length_append, List.length_replicate]; omega) hb hrg.2.2.2 k4
                exact ⟨this.1, by omega, this.2.2⟩
              · rw [wO (by omega) k1 (mY hs hr) hb] at k4; cases k4
      have hA := xD B a
      have := key _ [] _ (Nat.le_add_right _ _) (Nat.zero_le _) (show ew B a ≤ 8 * B.length by omega) h5
      have hN := xy B a
      have hd := Bx B a
      have hn2 := cJ B (a + 5) 5
      refine ⟨h7, h8, ?_, ?_, by omega, this.2.2⟩
      · rw [List.length_take]; omega
      · rw [List.length_drop]
        have : 1 ≤ hD B a := by omega
        omega
end Go.ad
namespace Go.ad
open Go.ak Go.ag
theorem xU {ls : List Int} (h : cu ls = 0) : ls.length ≤ 320 := (lQ h).1.1
theorem wY (a : Nat) : dL a = (a + 7) / 8 * 8 := rfl
theorem MY (n a : Nat) : 8 * n < a + 16 ∨ (a + 16 ≤ 8 * n ∧ 8 * n < a + 32) ∨ a + 32 ≤ 8 * n := by omega
end Go.ad
namespace Go.ad
open Go.ak Go.ag
section
variable {B : List Int} {mo y e : Int} {s s2 : St} {at_ : Nat}
theorem qi (h : fa mo s y = .ok s2) : (s.out.length : Int) < mo ∧ s2 = { s with out := s.out ++ [y] } := by
  unfold fa at h
  split at h
  · cases h; rename_i k; exact ⟨k, rfl⟩
  · cases h
theorem mL (h : (s.out.length : Int) < mo) : fa mo s y = .ok { s with out := s.out ++ [y] } := if_pos h
theorem mX (h : ¬ (s.out.length : Int) < mo) : fa mo s y = .error 6 := if_neg h
theorem JO (h : fa mo { s with at_ := at_ } y = .error e) : fa mo s y = .error e := by
  by_cases k : (s.out.length : Int) < mo
  · rw [mL (s := { s with at_ := at_ }) k] at h; cases h
  · rw [mX (s := { s with at_ := at_ }) k] at h; rw [mX k]; exact h
theorem I5 (B : List Int) (a : Nat) (mo : Int) (s : St) (y : Int) : 8 * B.length < a + 8 ∨ (a + 8 ≤ 8 * B.length ∧ ∃ e, fa mo s y = .error e) ∨ (a + 8 ≤ 8 * B.length ∧ ∃ s2, fa mo s y = .ok s2) := by
  rcases Nat.lt_or_ge (8 * B.length) (a + 8) with h | h
  · exact .inl h
  · rcases gH (fa mo s y) with k | k
    · exact .inr (.inl ⟨h, k⟩)
    · exact .inr (.inr ⟨h, k⟩)
theorem LB (h : 0 < s.aB) (k : (s.out.length : Int) < mo) : one B mo s = .ok { s with aB := s.aB - 1, out := s.out ++ [s.out.getD (s.out.length - s.cE) 0] } := by
  unfold one; rw [if_pos h]; exact mL k
theorem KL (h : 0 < s.aB) (k : fa mo s (s.out.getD (s.out.length - s.cE) 0) = .error e) : one B mo s = .error e := by
  unfold one; rw [if_pos h]
  by_cases q : (s.out.length : Int) < mo
  · rw [mL q] at k; cases k
  · rw [mX q] at k; rw [← k]; exact mX q
theorem sI (h : ¬ 0 < s.aB) (k : s.kind = -1) : one B mo s = dR B s := by unfold one; rw [if_neg h, if_pos k]
theorem vw (h : ¬ 0 < s.aB) (k : ¬ s.kind = -1) (k0 : s.kind ≠ 0) : one B mo s = fb B mo s := by unfold one; rw [if_neg h, if_neg k, if_pos k0]
theorem tA (h : ¬ 0 < s.aB) (k : ¬ s.kind = -1) (k0 : s.kind = 0) (l : s.left = 0) : one B mo s = .ok { s with kind := -1, ended := s.last } := by unfold one; rw [if_neg h, if_neg k, if_neg (by omega), if_pos l]
theorem xe (h : ¬ 0 < s.aB) (k : ¬ s.kind = -1) (k0 : s.kind = 0) (l : ¬ s.left = 0) (x : 8 * B.length < s.at_ + 8) : one B mo s = .error 2 := by unfold one; rw [if_neg h, if_neg k, if_neg (by omega), if_neg l, if_pos x]
theorem tB (h : ¬ 0 < s.aB) (k : ¬ s.kind = -1) (k0 : s.kind = 0) (l : ¬ s.left = 0) (x : s.at_ + 8 ≤ 8 * B.length) : one B mo s = fa mo { s with at_ := s.at_ + 8, left := s.left - 1 } (aV B s.at_ 8) := by unfold one; rw [if_neg h, if_neg k, if_neg (by omega), if_neg l, if_neg (by omega)]
theorem one_le (h : ¬ 0 < s.aB) (k : ¬ s.kind = -1) (k0 : s.kind = 0) (l : ¬ s.left = 0) (x : s.at_ + 8 ≤ 8 * B.length) (p : fa mo { s with at_ := s.at_ + 8 } (aV B s.at_ 8) = .error e) : one B mo s = .error e := by
  rw [tB h k k0 l x]
  by_cases q : (s.out.length : Int) < mo
  · rw [mL (s := { s with at_ := s.at_ + 8 }) q] at p; cases p
  · rw [mX (s := { s with at_ := s.at_ + 8 }) q] at p; rw [← p]; exact mX q
theorem Bm (h : ¬ 0 < s.aB) (k : ¬ s.kind = -1) (k0 : s.kind = 0) (l : ¬ s.left = 0) (x : s.at_ + 8 ≤ 8 * B.length) (q : (s.out.length : Int) < mo) : one B mo s = .ok { s with at_ := s.at_ + 8, left := s.left - 1, out := s.out ++ [aV B s.at_ 8] } := by
  rw [tB h k k0 l x]; exact mL q
end
end Go.ad
namespace Go.ad
open Go.ak Go.ag
theorem DP : gf.length = 288 := by decide +kernel
theorem D5 : ly.length = 32 := by decide +kernel
def mu (B : List Int) (s : St) : Nat := (8 * B.length - s.at_) * 1000 + s.aB + (if s.kind = -1 then 0 else 1)
theorem FT {B : List Int} {s : St} (h : s.kind = -1) : mu B s = (8 * B.length - s.at_) * 1000 + s.aB := by unfold mu; rw [if_pos h, Nat.add_zero]
theorem IN {B : List Int} {s : St} (h : ¬ s.kind = -1) : mu B s = (8 * B.length - s.at_) * 1000 + s.aB + 1 := by unfold mu; rw [if_neg h]
theorem oW (B : List Int) (s : St) : mu B s ≤ (8 * B.length - s.at_) * 1000 + s.aB + 1 := by unfold mu; split <;> omega
theorem G8 {l : List Int} {y : Int} (h : az l) (hy : 0 ≤ y ∧ y < 256) : az (l ++ [y]) := by
  intro x hx
  rcases List.mem_append.1 hx with hx | hx
  · exact h x hx
  · rw [List.mem_singleton.1 hx]; exact hy
structure Good (B : List Int) (mo : Int) (s s2 : St) : Prop where
  ok : Ok B mo s2
  less : mu B s2 < mu B s
  le : s.out.length ≤ s2.out.length
  one : s2.out.length ≤ s.out.length + 1
theorem sw {B : List Int} {mo : Int} {s s1 s2 : St} {y : Int} (hy : 0 ≤ y ∧ y < 256) (h : fa mo s1 y = .ok s2) (ho : s1.out = s.out) (hok : Ok B mo s1) (hl : mu B s1 < mu B s) (hf : s1.aB = 0 ∨ True) : Good B mo s s2 := by
  obtain ⟨k, rfl⟩ := qi h
  refine ⟨⟨hok.at_, by simp; omega, G8 hok.te hy, hok.kind, hok.left, hok.Fx, hok.aB, fun h => ?_⟩, hl, by simp [ho], by simp [ho]⟩
  have := hok.cE h
  simp; omega
theorem lM {B : List Int} {mo : Int} {s s2 : St} (hB : az B) (hok : Ok B mo s) (h : one B mo s = .ok s2) : Good B mo s s2 := by
  obtain ⟨q1, q2, q3, q4, q5, q6, q7, q8⟩ := hok
  by_cases hc : 0 < s.aB
  · have he : fa mo { s with aB := s.aB - 1 } (s.out.getD (s.out.length - s.cE) 0) = .ok s2 := by unfold one at h; rw [if_pos hc] at h; exact h
    refine sw (q3.get _) he rfl ⟨q1, q2, q3, q4, q5, q6, by show s.aB - 1 < 400; omega, fun _ => q8 hc⟩ ?_ (.inr trivial)
    show (8 * B.length - s.at_) * 1000 + (s.aB - 1) + (if s.kind = -1 then 0 else 1) < (8 * B.length - s.at_) * 1000 + s.aB + (if s.kind = -1 then 0 else 1)
    omega
  by_cases hk : s.kind = -1
  · rw [sI hc hk] at h
    by_cases h1 : 8 * B.length < s.at_ + 3
    · rw [zD h1] at h; cases h
    have hx1 : s.at_ + 3 ≤ 8 * B.length := by omega
    have hm := FT (B := B) hk
    by_cases k0 : aV B (s.at_ + 1) 2 = 0
    · by_cases hx : 8 * B.length < dL (s.at_ + 3) + 32
      · rw [vF hx1 k0 hx] at h; cases h
      · by_cases hn : aV B (dL (s.at_ + 3)) 16 = 65535 - aV B (dL (s.at_ + 3) + 16) 16
        · rw [xJ hx1 k0 (by omega) hn] at h; cases h
          have hb := cJ B (dL (s.at_ + 3)) 16
          have ha := wY (s.at_ + 3)
          refine ⟨⟨by show dL (s.at_ + 3) + 32 ≤ _; omega, q2, q3, .inr (.inl rfl), by show (aV B (dL (s.at_ + 3)) 16).toNat < 65536; omega, fun h => absurd h (by show ¬ (0 : Int) < 0; omega), q7, q8⟩, ?_, Nat.le_refl _, Nat.le_succ _⟩
          refine Nat.lt_of_le_of_lt (oW B _) ?_
          rw [hm]
          show (8 * B.length - (dL (s.at_ + 3) + 32)) * 1000 + s.aB + 1 < _
          omega
        · rw [Bv hx1 k0 (by omega) hn] at h; cases h
    · by_cases k1 : aV B (s.at_ + 1) 2 = 1
      · rw [Fb hx1 k1] at h; cases h
        refine ⟨⟨hx1, q2, q3, .inr (.inr (.inl rfl)), q5, fun _ => ⟨yg, yC, by show 0 < gf.length; rw [DP]; decide, by show 0 < ly.length; rw [D5]; decide⟩, q7, q8⟩, ?_, Nat.le_refl _, Nat.le_succ _⟩
        refine Nat.lt_of_le_of_lt (oW B _) ?_
        rw [hm]
        show (8 * B.length - (s.at_ + 3)) * 1000 + s.aB + 1 < _
        omega
      · by_cases k2 : aV B (s.at_ + 1) 2 = 2
        · rcases gH (told B (s.at_ + 3)) with ⟨e, ht⟩ | ⟨⟨a, l, d⟩, ht⟩
          · rw [Ci hx1 k2 ht] at h; cases h
          · rw [Cb hx1 k2 ht] at h; cases h
            obtain ⟨t1, t2, t3, t4, t5, t6⟩ := Cm ht
            refine ⟨⟨t6, q2, q3, .inr (.inr (.inr rfl)), q5, fun _ => ⟨t1, t2, t3, t4⟩, q7, q8⟩, ?_, Nat.le_refl _, Nat.le_succ _⟩
            refine Nat.lt_of_le_of_lt (oW B _) ?_
            rw [hm]
            show (8 * B.length - a) * 1000 + s.aB + 1 < _
            omega
        · rw [CW hx1 k0 k1 k2] at h; cases h
  have hm := IN (B := B) hk
  by_cases hk0 : s.kind = 0
  · by_cases hl : s.left = 0
    · rw [tA hc hk hk0 hl] at h; cases h
      refine ⟨⟨q1, q2, q3, .inl rfl, q5, fun h => absurd h (by show ¬ (0 : Int) < -1; omega), q7, q8⟩, ?_, Nat.le_refl _, Nat.le_succ _⟩
      rw [hm, FT rfl]
      show (8 * B.length - s.at_) * 1000 + s.aB < _
      omega
    · by_cases hx : 8 * B.length < s.at_ + 8
      · rw [xe hc hk hk0 hl hx] at h; cases h
      · rw [tB hc hk hk0 hl (by omega)] at h
        have hb := cJ B s.at_ 8
        refine sw (by omega) h rfl ⟨by show s.at_ + 8 ≤ _; omega, q2, q3, q4, by show s.left - 1 < 65536; omega, q6, q7, q8⟩ ?_ (.inr trivial)
        refine Nat.lt_of_le_of_lt (oW B _) ?_
        rw [hm]
        show (8 * B.length - (s.at_ + 8)) * 1000 + s.aB + 1 < _
        omega
  · rw [vw hc hk hk0] at h
    have hkp : 0 < s.kind := by omega
    obtain ⟨e1, e2, z1, z2⟩ := q6 hkp
    rcases w5 (B := B) (a := s.at_) e1 z1 with ⟨e, hs⟩ | ⟨y, a1, hs, y0, y1, a0, ha1⟩
    · rw [vr hs] at h; cases h
    by_cases hy : y < 256
    · rw [ob hs hy] at h
      refine sw (by omega) h rfl ⟨ha1, q2, q3, q4, q5, q6, q7, q8⟩ ?_ (.inr trivial)
      refine Nat.lt_of_le_of_lt (oW B _) ?_
      rw [hm]
      show (8 * B.length - a1) * 1000 + s.aB + 1 < _
      omega
    by_cases hy2 : y = 256
    · rw [qS hs hy2] at h; cases h
      refine ⟨⟨ha1, q2, q3, .inl rfl, q5, fun h => absurd h (by show ¬ (0 : Int) < -1; omega), q7, q8⟩, ?_, Nat.le_refl _, Nat.le_succ _⟩
      refine Nat.lt_of_le_of_lt (oW B _) ?_
      rw [hm]
      show (8 * B.length - a1) * 1000 + s.aB + 1 < _
      omega
    rcases AK (B := B) (s := y - 257) (a := a1) (by omega) ha1 with ⟨e, hn⟩ | ⟨n, a2, hn, n0, n1, n2, n3⟩
    · rw [vu hs (by omega) hn] at h; cases h
    rcases yc (B := B) (a := a2) e2 z2 with ⟨e, hf⟩ | ⟨f, a3, hf, f0, f1, f2, f3⟩
    · rw [vy hs (by omega) hn hf] at h; cases h
    by_cases hfo : f ≤ s.out.length
    · rw [vm hs (by omega) hn hf (by omega)] at h; cases h
      refine ⟨⟨f3, q2, q3, q4, q5, q6, by show ((n : Int)).toNat < 400; omega, fun _ => by show 1 ≤ ((f : Int)).toNat ∧ ((f : Int)).toNat ≤ s.out.length; omega⟩, ?_, Nat.le_refl _, Nat.le_succ _⟩
      refine Nat.lt_of_le_of_lt (oW B _) ?_
      rw [hm]
      show (8 * B.length - a3) * 1000 + ((n : Int)).toNat + 1 < _
      omega
    · rw [vv hs (by omega) hn hf (by omega)] at h; cases h
inductive Lp (B : List Int) (mo : Int) (w : Nat) (n : Int) : St → Except Int St → Prop
  | stop {s : St} : (s.ended = true ∨ n ≤ (s.out.length : Int) - w) → Lp B mo w n s (.ok s)
  | step {s s' : St} {o : Except Int St} : s.ended = false → (s.out.length : Int) - w < n → one B mo s = .ok s' → Lp B mo w n s' o → Lp B mo w n s o
  | fail {s : St} {e : Int} : s.ended = false → (s.out.length : Int) - w < n → one B mo s = .error e → Lp B mo w n s (.error e)
theorem M5 {B : List Int} {mo : Int} (hB : az B) (w : Nat) (n : Int) : ∀ (k : Nat) {s : St}, mu B s ≤ k → Ok B mo s → ∃ o, Lp B mo w n s o := by
  intro k
  induction k with
  | zero =>
    intro s hk hok
    by_cases h1 : s.ended = true
    · exact ⟨_, .stop (.inl h1)⟩
    by_cases h2 : n ≤ (s.out.length : Int) - w
    · exact ⟨_, .stop (.inr h2)⟩
    rcases gH (one B mo s) with ⟨e, h⟩ | ⟨s2, h⟩
    · exact ⟨_, .fail (by simpa using h1) (by omega) h⟩
    · have := (lM hB hok h).less; omega
  | succ k ih =>
    intro s hk hok
    by_cases h1 : s.ended = true
    · exact ⟨_, .stop (.inl h1)⟩
    by_cases h2 : n ≤ (s.out.length : Int) - w
    · exact ⟨_, .stop (.inr h2)⟩
    rcases gH (one B mo s) with ⟨e, h⟩ | ⟨s2, h⟩
    · exact ⟨_, .fail (by simpa using h1) (by omega) h⟩
    · have hg := lM hB hok h
      have := hg.less
      obtain ⟨o, ho⟩ := ih (show mu B s2 ≤ k by omega) hg.ok
      exact ⟨o, .step (by simpa using h1) (by omega) h ho⟩
theorem G4 {B : List Int} {mo : Int} {w : Nat} {n : Int} {s : St} {o : Except Int St} (hB : az B) (h : Lp B mo w n s o) : Ok B mo s → (∀ s2, o = .ok s2 → Ok B mo s2 ∧ mu B s2 ≤ mu B s ∧ iA B mo s s2 ∧ (s2.ended = true ∨ n ≤ (s2.out.length : Int) - w) ∧ (s.ended = false → (s.out.length : Int) - w < n → mu B s2 < mu B s) ∧ s.out.length ≤ s2.out.length) ∧ (∀ e, o = .error e → ka B mo s (.error e)) := by
  induction h with
  | stop h => intro hok; exact ⟨fun s2 e => by cases e; exact ⟨hok, Nat.le_refl _, .refl _ _ _, h, fun h1 h2 => by rcases h with h | h; (rw [h1] at h; cases h); omega, Nat.le_refl _⟩, fun e h => by cases h⟩
  | step h1 h2 h3 h4 ih =>
    intro hok
    have hg := lM hB hok h3
    have hl := hg.less
    have hle := hg.le
    obtain ⟨k1, k2⟩ := ih hg.ok
    refine ⟨fun s2 e => ?_, fun e h => .step h1 h3 (k2 e h)⟩
    obtain ⟨m1, m2, m3, m4, m5, m6⟩ := k1 s2 e
    exact ⟨m1, by omega, (iA.one h1 h3).trans m3, m4, fun _ _ => by omega, by omega⟩
  | fail h1 h2 h3 => intro hok; exact ⟨fun s2 e => (by cases e), fun e h => by cases h; exact .fail h1 h3⟩
abbrev Jt := Except Int St
def kJ : Jt → Bool
  | .ok s => s.ended
  | .error _ => true
def qG : Jt → List Int
  | .ok s => if s.ended = true then s.out else []
  | .error _ => []
def As : Jt → Int
  | .ok _ => 0
  | .error e => e
def rv : Jt → Int
  | .ok s => if s.ended = true then ((s.at_ + 7) / 8 : Nat) else 0
  | .error _ => 0
def uU (B : List Int) (mo : Int) : Jt → Prop
  | .ok s => Ok B mo s
  | .error e => e ≠ 0
def Ae (B : List Int) (mo n : Int) (r r' : Jt) : Prop := ((n < 1 ∨ kJ r = true) ∧ r' = r) ∨ (1 ≤ n ∧ ∃ s, r = .ok s ∧ s.ended = false ∧ Lp B mo s.out.length n s r')
def Bo (B : List Int) (mo : Int) (s0 : St) : Jt → Prop
  | .ok s => iA B mo s0 s
  | .error e => ka B mo s0 (.error e)
def Ou : Oc → List Int × Int × Int
  | .ok (x, n) => (x, (n : Int), 0)
  | .error e => ([], 0, e)
theorem oP {B : List Int} {mo : Int} (h : 0 ≤ mo) : Ok B mo start := ⟨Nat.zero_le _, by show ((0 : Nat) : Int) ≤ mo; omega, fun x hx => (by cases hx), .inl rfl, by decide, fun h => absurd h (by decide), by decide, fun h => absurd h (by decide)⟩
end Go.ad
namespace Go.ad
section
variable {B : List Int} {mo n e : Int} {w : Nat} {s s2 : St} {o : Except Int St}
theorem Fq (h : Lp B mo w n s o) (k : s.ended = true ∨ n ≤ (s.out.length : Int) - w) : o = .ok s := by
  cases h with
  | stop _ => rfl
  | step h1 h2 => exfalso; rcases k with k | k; (rw [h1] at k; cases k); omega
  | fail h1 h2 => exfalso; rcases k with k | k; (rw [h1] at k; cases k); omega
theorem NW (h : Lp B mo w n s o) (k1 : s.ended = false) (k2 : (s.out.length : Int) - w < n) (p : one B mo s = .ok s2) : Lp B mo w n s2 o := by
  cases h with
  | stop h => exfalso; rcases h with k | k; (rw [k1] at k; cases k); omega
  | step _ _ h3 h4 => rw [h3] at p; cases p; exact h4
  | fail _ _ h3 => rw [h3] at p; cases p
theorem NX (h : Lp B mo w n s o) (k1 : s.ended = false) (k2 : (s.out.length : Int) - w < n) (p : one B mo s = .error e) : o = .error e := by
  cases h with
  | stop h => exfalso; rcases h with k | k; (rw [k1] at k; cases k); omega
  | step _ _ h3 h4 => rw [h3] at p; cases p
  | fail _ _ h3 => rw [h3] at p; cases p; rfl
end
end Go.ad

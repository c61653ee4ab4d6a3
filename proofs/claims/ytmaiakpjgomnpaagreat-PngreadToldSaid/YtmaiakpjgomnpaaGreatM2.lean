/- Walks of functions that the law reaches, and what they lean on; no conditions. -/
import Derived.Test.YtmaiakpjgomnpaaGreatM1
import Derived.Lib.ConvBytes
import Derived.KernelRfl
set_option linter.unusedVariables false
set_option linter.unusedSimpArgs false
set_option maxRecDepth 100000
namespace Go.Sl
section
variable {C : Ctx} {Q : QT} {E : Env} {L F : List ad} {ops : Array Oper} {rest : List Oper} {d : Nat} {ty : TypeId} {pos : String} {aft : Array Edge}
theorem DY {x : Operand} {src dst T : TypeId} {l : List Int} (hs : C.P.underlying src = some .string) (hd : C.P.underlying dst = some (.slice T)) (he : C.P.underlying T = some (.int .u8)) (hx : aq E x = some (.string (strOfNums l))) (hl : ∀ x ∈ l, 0 ≤ x ∧ x < 256) :
    kO C (.convert src dst x) ty E L (fun v L' => ∃ b c, v = .slice (some ⟨b, 0, none⟩) l.length c ∧ L' = Row (aP T .u8) (some ⟨b, 0, none⟩) l.length c l :: L) := by
  intro d pos aft g a w K Qx ha hi hK
  have hconv := Lib.run_convert_string_bytes (P := C.P) w src dst T (strOfNums l) hs hd he
  have hr : (execOp a.eval ⟨d, .convert src dst x, ty, pos, aft, g⟩).run C.P w = .ok (.value (.slice (some ⟨w.heap.size, 0, none⟩) (strOfNums l).size (grownCap w (strOfNums l).size 0 T))) (Lib.bytesWorld w T (strOfNums l)) := by
    simp only [execOp, ha.eval hx, Sem.run_bind, hconv, Result.andThen_ok, Sem.run_pure]
  unfold Oper.wp
  rw [hr]
  refine hK _ _ _ ⟨w.heap.size, grownCap w (strOfNums l).size 0 T, by rw [jm], rfl⟩ ?_
  have e : (Lib.bytesCells w T (strOfNums l)).toList = l.map (Value.int .u8) ++ List.replicate (grownCap w (strOfNums l).size 0 T - (strOfNums l).size) (.int .u8 0) := by
    unfold Lib.bytesCells
    rw [Array.toList_append, Array.toList_map, Array.toList_replicate, qZ l hl]
  have h1 : Inv C.w0 (ao w.heap.size T (Lib.bytesCells w T (strOfNums l)).toList :: L) (w.drew.alloc (.cells (Lib.bytesCells w T (strOfNums l)).toList.toArray T)) := by
    have := hi.drew.alloc T (Lib.bytesCells w T (strOfNums l)).toList
    simpa using this
  rw [Array.toArray_toList] at h1
  have hsz : (w.drew.alloc (.cells (Lib.bytesCells w T (strOfNums l)) T)).heap.size = w.heap.size + 1 := by simp
  have hp := h1.write (w' := Lib.bytesWorld w T (strOfNums l)) (cs' := (Lib.bytesCells w T (strOfNums l)).toList) (e' := true) rfl rfl rfl (by rw [Lib.bytesWorld_size, hsz]; exact Nat.le_refl _) (by rw [Lib.bytesWorld_at_new w T _]; simp [Mk]) (fun k hk hlt => by
    have hlt2 : k < w.heap.size := by omega
    rw [Lib.bytesWorld_at_old w T _ k hlt2]
    show w.heap[k]? = (w.heap.push _)[k]?
    rw [Array.getElem?_push, if_neg (by omega)])
  have hg := grownCap_ge w (strOfNums l).size 0 T
  rw [jm] at hg
  refine hp.imp (fun h hh => ⟨rfl, .inr ⟨w.heap.size, 0, [], List.replicate (grownCap w (strOfNums l).size 0 T - (strOfNums l).size) (.int .u8 0), rfl, ?_, rfl, by rw [gx], by rw [List.length_replicate, jm]; exact Nat.le_of_eq (Nat.mul_one _), by rw [jm]; exact hg⟩⟩)
  rw [List.nil_append, show l.flatMap (aP T .u8).e = l.map (Value.int .u8) from yW l, ← e]
  exact hh
theorem xB {x : Operand} {src dst T : TypeId} {l : List Int} (hs : C.P.underlying src = some .string) (hd : C.P.underlying dst = some (.slice T)) (he : C.P.underlying T = some (.int .u8)) (hx : aq E x = some (.string (strOfNums l))) (hl : ∀ x ∈ l, 0 ≤ x ∧ x < 256) (hn : Nat.blt d C.n = true)
    (k : ∀ b c, dM C ops rest Q ((d, .slice (some ⟨b, 0, none⟩) l.length c) :: E) (Row (aP T .u8) (some ⟨b, 0, none⟩) l.length c l :: L)) : dM C ops (⟨some d, .convert src dst x, ty, pos, aft, none⟩ :: rest) Q E L :=
  pe (DY hs hd he hx hl) hn fun v L' ⟨b, c, e1, e2⟩ => by subst e1; subst e2; exact k b c
theorem xS {x : Operand} {src dst T : TypeId} {l : List Int} (hs : C.P.underlying src = some .string) (hd : C.P.underlying dst = some (.slice T)) (he : C.P.underlying T = some (.int .u8)) (hx : aq E x = some (.string (strOfNums l))) (hl : ∀ x ∈ l, 0 ≤ x ∧ x < 256) (hn : Nat.blt d C.n = true)
    (k : ∀ b c, dM C ops rest Q ((d, .slice (some ⟨b, 0, none⟩) l.length c) :: E) (aS (aP T .u8) (some ⟨b, 0, none⟩) l.length l :: L)) : dM C ops (⟨some d, .convert src dst x, ty, pos, aft, none⟩ :: rest) Q E L :=
  xB hs hd he hx hl hn fun b c => F3 .head (fun h hh => ⟨hh.1, hh.2.rd⟩) (k b c)
theorem tn {x : Operand} {t : TypeId} {k : IntKind} {n r : Int} (hk : k.signed = false) (h : aq E x = some (.int k n)) (e : k.wrap ((BitVec.ofInt k.bits k.max ^^^ BitVec.ofInt k.bits n).toNat : Int) = r) : cF C (.unOp .xor t x) ty E L (.int k r) L := dS fun d pos aft g a w ha => by
  rw [← e]
  simp [execOp, ha.eval h, Op.unary, Op.intBits, hk]
theorem qY {x y : Operand} {t : TypeId} {l : List Int} {k : IntKind} {i : Int} (n : Nat) (ht : C.P.underlying t = some .string) (hx : aq E x = some (.string (strOfNums l))) (hy : aq E y = some (.int k i)) (hl : ∀ x ∈ l, 0 ≤ x ∧ x < 256) (hi : i = (n : Int)) (hn : n < l.length) : cF C (.index t x y) ty E L (.int .u8 (l.getD n 0)) L := dS fun d pos aft g a w ha => by
  subst hi
  have hs : (strOfNums l)[n]? = some (UInt8.ofNat (l.getD n 0).toNat) := by
    have h1 : n < (strOfNums l).size := by rw [jm]; exact hn
    rw [getElem?_pos (strOfNums l) n h1]
    congr 1
    simp [strOfNums, ByteArray.getElem_eq_getElem_data, hn]
  have hb : (((UInt8.ofNat (l.getD n 0).toNat).toNat : Nat) : Int) = l.getD n 0 := by
    have hm := hl (l.getD n 0) (by rw [List.getD_eq_getElem?_getD, List.getElem?_eq_getElem hn]; exact List.getElem_mem hn)
    rw [UInt8.toNat_ofNat', Nat.mod_eq_of_lt (by omega)]
    omega
  simp [execOp, ha.eval hx, ha.eval hy, Instr.index, asIntOf, run_underlying ht, hs]
  simpa using hb
end
end Go.Sl
namespace Go.Sl
section
variable {C : Ctx} {E : Env} {L : List ad} {ty : TypeId} {α : Type}
theorem I1 {x y : Operand} {t n : Nat} {k : IntKind} {cs : Array Value} {iv : Int} {v : Value} (c : Ec α) (l : List α) (i : Nat) (ht : jT C.P t = some (n, c.T, c.sz)) (ha : ia C.P c.T = some c.sz) (hx : aq E x = some (.agg cs)) (hc : cs.toList = l.flatMap c.e) (hy : aq E y = some (.int k iv)) (hi : iv = (i : Int)) (hn : i < n) (hl : i < l.length) (hv : .agg (c.e (c.g l (i : Int))).toArray = v) : cF C (.index t x y) ty E L v L :=
  dS fun d pos aft g a w ha' => by
    subst hv; subst hi
    obtain ⟨h1, i', h2, h3⟩ := o9 ht
    obtain ⟨g1, g2⟩ := lY ha w
    have hlt : (i : Int) < (n : Int) := by omega
    have e : cs.extract (i * c.sz) (i * c.sz + c.sz) = (c.e (c.g l (i : Int))).toArray := by
      apply Array.ext'
      rw [Array.toList_extract, hc]
      have := IC c l i hl
      rw [c.vG hl]
      simpa [List.extract, Nat.add_sub_cancel_left] using this
    simp [execOp, ha'.eval hx, ha'.eval hy, Instr.index, asIntOf, run_underlying h1, run_sizeOf h2, h3, hlt, hn, part, g1, e]
end
end Go.Sl
namespace Go.Sl
section
variable {C : Ctx} {Q : QT} {E : Env} {L F G : List ad} {ops : Array Oper} {rest : List Oper} {ty : TypeId} {pos : String} {aft : Array Edge}
theorem By {x : Operand} {t n e sz b o : Nat} (ht : jT C.P t = some (n, e, sz)) (hx : aq E x = some (.pointer (some ⟨b, o, none⟩))) : cF C (.slice t x none none none) ty E L (.slice (some ⟨b, o, none⟩) n n) L :=
  dS fun d pos aft g a w ha => by
    obtain ⟨e1, i, e2, e3⟩ := o9 ht
    simp [execOp, ha.eval hx, Instr.sliceAt, run_underlying e1, Instr.sureAddr, Instr.sliceBounds, run_sizeOf e2, e3, Addr.fX]
theorem D9 {d : Option Nat} {op : Op} {u : Value} {M : List ad} (h : kO C op ty E L (fun v L' => v = u ∧ L' = M)) (hp : M.Perm G) : Step C ops ⟨d, op, ty, pos, aft, none⟩ E L (fun v L' => v = u ∧ L'.Perm G) :=
  ux fun d pos aft g a w K Q ha hi hK => h d pos aft g a w K Q ha hi fun v L' w' ⟨e1, e2⟩ hi' => hK v L' w' ⟨e1, e2 ▸ hp⟩ hi'
theorem fM {α : Type} {c : Ec α} {w0 w : World} {p : Option Addr} {n cap : Nat} {l : List α} (hi : Inv w0 L w) (hm : Row c p n cap l ∈ L) : n ≤ cap := by
  obtain ⟨F, hF⟩ := hi.mem hm
  have h2 := hF.imp (fun h hh => hh.2)
  exact (FN h2 (List.mem_cons_self ..)).2.1
end
end Go.Sl
namespace Go.Sl
section
variable {C : Ctx} {ops : Array Oper} {E : Env} {L F : List ad} {d : Option Nat} {ty : TypeId} {pos : String} {aft : Array Edge}
theorem sI {α : Type} (g : α → Value) (pr : Value → α) (A : α → List ad) {f : FuncId} {args : List Operand} {tys : Array TypeId} {vs : List Value} {Pre : List ad} (hS : aG C.P f vs Pre (aQ fun v G => ∃ a, v = g a ∧ G = A a)) (hp : ∀ a, pr (g a) = a) (hb : aH C.P f = true) (hE : iL E args = some vs) (hL : fJ L Pre F) :
    Step C ops ⟨d, .call ⟨.value (.func f), args.toArray, tys⟩, ty, pos, aft, none⟩ E L (fun v L' => v = g (pr v) ∧ True ∧ L'.Perm (A (pr v) ++ F)) :=
  re hS hb hE hL fun v G ⟨a, e1, e2⟩ => by subst e1; subst e2; rw [hp]; exact ⟨rfl, trivial, .refl _⟩
def jJ : Value → Option Addr × Nat | .tuple ⟨[.slice p _ c, _]⟩ => (p, c) | _ => (none, 0)
def vp : Value → Nat | .tuple ⟨[.agg ⟨[_, _, .slice (some a) _ _]⟩, _]⟩ => a.block | _ => 0
theorem Ac {T : TypeId} {s x : Operand} {t tS cJ n cap : Nat} {p : Option Addr} {l l2 : List Int} {zs : List Value}
    (ht : sliceB C.P t = some (T, 1, cJ)) (hS : C.P.underlying tS = some .string) (hz : dH C.P T = some zs) (hby : Nat.ble 1 cJ = true)
    (hs : aq E s = some (.slice p n cap)) (hx : aq E x = some (.string (strOfNums l2))) (hl2 : ∀ x ∈ l2, 0 ≤ x ∧ x < 256) (hL : iq L (Row (aP T .u8) p n cap l) F) (hb : (n + l2.length) * cJ ≤ 140737488355328) :
    kO C (.call ⟨.builtin .append, [s, x].toArray, #[t, tS]⟩) ty E L (fun v L' => ∃ p' cap', v = .slice p' (n + l2.length) cap' ∧ L' = Row (aP T .u8) p' (n + l2.length) cap' (l ++ l2) :: F) := fun d pos aft g a w K Qx ha hi hK => by
  have hl1 : l.length = n := ((own (w0 := C.w0) (L := Row (aP T .u8) p n cap l :: F) an).fact (hi.perm hL.perm)).1
  have hi2 : Inv C.w0 (Sl p n cap T 1 (l.flatMap (aP T .u8).e) :: F) w := (hi.perm hL.perm).imp (fun h hh => hh.2)
  refine Bx (C := C) (E := E) (ty := ty) (vs := l.flatMap (aP T .u8).e) (ws := l2.map (Value.int .u8)) ht hS hz rfl hby hs hx (qZ l2 hl2) (jm l2) iq.head hb d pos aft g a w K Qx ha hi2 ?_
  rintro v L' w' ⟨p', cap', e1, e2⟩ hi'
  subst e2
  exact hK v _ w' ⟨p', cap', e1, rfl⟩ (hi'.imp (fun h hh => ⟨by simp [hl1], by rw [List.flatMap_append, show l2.flatMap (aP T .u8).e = l2.map (Value.int .u8) from yW l2]; exact hh⟩))
end
end Go.Sl
namespace Go.Sl
def num : Nat → List Value → List (Nat × Value)
  | _, [] => []
  | i, v :: vs => (i, v) :: num (i + 1) vs
theorem wK (k : IntKind) : ∀ (l : List Int) (i : Nat) (cs : List Value), i + l.length ≤ cs.length → Instr.fill (fun i => some (i * 1, 1)) cs.toArray (num i (l.map (Value.int k))) = some (cs.take i ++ l.map (Value.int k) ++ cs.drop (i + l.length)).toArray
  | [], i, cs, h => by simp [num, Instr.fill]
  | x :: l, i, cs, h => by
    simp only [List.length_cons] at h
    have hi : i < cs.length := by omega
    have e : (cs.set i (.int k x)).take (i + 1) = cs.take i ++ [.int k x] := by
      rw [List.take_add_one, List.take_set_of_le (Nat.le_refl _)]
      simp [hi]
    have e2 : (cs.set i (.int k x)).drop (i + 1 + l.length) = cs.drop (i + (l.length + 1)) := by
      rw [List.drop_set_of_lt (by omega)]; congr 1; omega
    have ih := wK k l (i + 1) (cs.set i (.int k x)) (by rw [List.length_set]; omega)
    rw [e, e2] at ih
    have hst : ∀ r, Instr.fill (fun i => some (i * 1, 1)) cs.toArray ((i, .int k x) :: r) = Instr.fill (fun i => some (i * 1, 1)) (cs.set i (.int k x)).toArray r := fun r => by
      rw [Instr.fill]
      simp [Value.cells]
      omega
    rw [List.map_cons, num, hst, ih]
    simp
section
variable {C : Ctx} {Q : QT} {E : Env} {L : List ad} {ops : Array Oper} {rest : List Oper} {d : Nat} {ty : TypeId} {pos : String} {aft : Array Edge}
theorem x9 {T : TypeId} {k : IntKind} {t cJ len : Nat} {parts : List (Nat × Operand)} {z : Value} (l : List Int) (ht : sliceB C.P t = some (T, 1, cJ)) (hz : dH C.P T = some [z]) (hsm : Nat.ble len 16777216 = true)
    (hp : oS E parts = some (num 0 (l.map (Value.int k)))) (hl : l.length = len) (hd : Nat.blt d C.n = true)
    (kk : ∀ b, dM C ops rest Q ((d, .slice (some ⟨b, 0, none⟩) len len) :: E) (Row (aP T k) (some ⟨b, 0, none⟩) len len l :: L)) : dM C ops (⟨some d, .buildSlice t len parts.toArray, ty, pos, aft, none⟩ :: rest) Q E L := by
  refine cV (aP T k) l ht hz rfl (by rw [show len * (aP T k).sz = len from Nat.mul_one _]; exact hsm) hp ?_ hl hd kk
  have hn : ((List.replicate len [z]).flatten).length = len := by simp
  have := wK k l 0 ((List.replicate len [z]).flatten) (by rw [hn]; omega)
  rw [Nat.zero_add, List.drop_eq_nil_of_le (by rw [hn]; omega), List.take_zero, List.nil_append, List.append_nil] at this
  rw [show l.flatMap (aP T k).e = l.map (Value.int k) from sg T k l]
  exact this
end
end Go.Sl
namespace Go.dv
variable {α : Type}
structure Rl (key : α → Int) (d : α) (l l' : List α) (a b : Nat) : Prop where
  len : l'.length = l.length
  out : ∀ i, i < a ∨ b ≤ i → l'.getD i d = l.getD i d
  mem : ∀ i, a ≤ i → i < b → ∃ j, a ≤ j ∧ j < b ∧ l'.getD i d = l.getD j d
  same : ∀ c, l'.filter (fun x => decide (key x = c)) = l.filter (fun x => decide (key x = c))
def Sd (key : α → Int) (d : α) (l : List α) (a b : Nat) : Prop := ∀ i j, a ≤ i → i ≤ j → j < b → key (l.getD i d) ≤ key (l.getD j d)
variable {key : α → Int} {d : α}
theorem Rl.refl (l : List α) (a b : Nat) : Rl key d l l a b := ⟨rfl, fun _ _ => rfl, fun i h1 h2 => ⟨i, h1, h2, rfl⟩, fun _ => rfl⟩
theorem Rl.trans {l1 l2 l3 : List α} {a b : Nat} (h : Rl key d l1 l2 a b) (k : Rl key d l2 l3 a b) : Rl key d l1 l3 a b :=
  ⟨k.len.trans h.len, fun i hi => (k.out i hi).trans (h.out i hi), fun i h1 h2 => by
    obtain ⟨j, j1, j2, j3⟩ := k.mem i h1 h2
    obtain ⟨m, m1, m2, m3⟩ := h.mem j j1 j2
    exact ⟨m, m1, m2, j3.trans m3⟩, fun c => (k.same c).trans (h.same c)⟩
theorem Rl.wide {l l' : List α} {a b a' b' : Nat} (h : Rl key d l l' a b) (h1 : a' ≤ a) (h2 : b ≤ b') : Rl key d l l' a' b' :=
  ⟨h.len, fun i hi => h.out i (by omega), fun i i1 i2 => by
    by_cases hi : a ≤ i ∧ i < b
    · obtain ⟨j, j1, j2, j3⟩ := h.mem i hi.1 hi.2
      exact ⟨j, by omega, by omega, j3⟩
    · exact ⟨i, i1, i2, h.out i (by omega)⟩, h.same⟩
theorem Sd.congr {l l' : List α} {a b : Nat} (h : Sd key d l a b) (e : ∀ i, a ≤ i → i < b → l'.getD i d = l.getD i d) : Sd key d l' a b := fun i j h1 h2 h3 => by
  rw [e i h1 (by omega), e j (by omega) h3]; exact h i j h1 h2 h3
theorem Sd.small {l : List α} {a b : Nat} (h : b ≤ a + 1) : Sd key d l a b := fun i j h1 h2 h3 => by
  obtain rfl : i = j := by omega
  exact Int.le_refl _
theorem Sd.sub {l : List α} {a b a' b' : Nat} (h : Sd key d l a b) (h1 : a ≤ a') (h2 : b' ≤ b) : Sd key d l a' b' := fun i j h3 h4 h5 => h i j (by omega) h4 (by omega)
theorem Sd.join {l : List α} {a m b : Nat} (h1 : Sd key d l a m) (h2 : Sd key d l m b) (h : ∀ i j, a ≤ i → i < m → m ≤ j → j < b → key (l.getD i d) ≤ key (l.getD j d)) : Sd key d l a b := fun i j i1 i2 i3 => by
  by_cases hj : j < m
  · exact h1 i j i1 i2 hj
  · by_cases hi : i < m
    · exact h i j i1 hi (by omega) i3
    · exact h2 i j (by omega) i2 i3
theorem JP (l : List α) (i : Nat) (h : i + 1 < l.length) : l = l.take i ++ (l.getD i d :: l.getD (i + 1) d :: l.drop (i + 2)) := by
  conv => lhs; rw [← List.take_append_drop i l]
  congr 1
  rw [List.drop_eq_getElem_cons (by omega), List.drop_eq_getElem_cons h]
  simp [List.getD_eq_getElem?_getD, show i < l.length by omega, h]
theorem Ck (l : List α) (i : Nat) (h : i + 1 < l.length) : (l.set i (l.getD (i + 1) d)).set (i + 1) (l.getD i d) = l.take i ++ (l.getD (i + 1) d :: l.getD i d :: l.drop (i + 2)) := by
  apply List.ext_getElem?
  intro j
  have hl : (l.take i).length = i := by simp; omega
  by_cases h1 : j < i
  · rw [List.getElem?_append_left (by omega), List.getElem?_set_ne (by omega), List.getElem?_set_ne (by omega)]
    simp [List.getElem?_take, h1]
  · rw [List.getElem?_append_right (by omega), hl]
    by_cases h2 : j = i
    · subst h2
      simp [List.getElem?_set, show j < l.length by omega]
    · by_cases h3 : j = i + 1
      · subst h3
        simp [List.getElem?_set, h]
      · rw [List.getElem?_set_ne (by omega), List.getElem?_set_ne (by omega)]
        obtain ⟨k, rfl⟩ : ∃ k, j = i + 2 + k := ⟨j - (i + 2), by omega⟩
        rw [show i + 2 + k - i = k + 2 by omega]
        simp [List.getElem?_drop]
theorem swap_comm (l : List α) (i : Nat) (x y : α) : (l.set (i + 1) x).set i y = (l.set i y).set (i + 1) x := by
  rw [List.set_comm]; omega
theorem Rl.swap {l : List α} {a b i : Nat} (h1 : a ≤ i) (h2 : i + 1 < b) (hl : i + 1 < l.length) (hk : key (l.getD i d) ≠ key (l.getD (i + 1) d)) : Rl key d l ((l.set i (l.getD (i + 1) d)).set (i + 1) (l.getD i d)) a b := by
  refine ⟨by simp, fun j hj => ?_, fun j j1 j2 => ?_, fun c => ?_⟩
  · simp only [List.getD_eq_getElem?_getD]
    rw [List.getElem?_set_ne (by omega), List.getElem?_set_ne (by omega)]
  · by_cases e1 : j = i
    · subst e1
      refine ⟨j + 1, by omega, h2, ?_⟩
      simp only [List.getD_eq_getElem?_getD]
      rw [List.getElem?_set_ne (by omega)]
      simp [List.getElem?_set, show j < l.length by omega]
    · by_cases e2 : j = i + 1
      · subst e2
        refine ⟨i, h1, by omega, ?_⟩
        simp only [List.getD_eq_getElem?_getD]
        simp [List.getElem?_set, hl]
      · refine ⟨j, j1, j2, ?_⟩
        simp only [List.getD_eq_getElem?_getD]
        rw [List.getElem?_set_ne (by omega), List.getElem?_set_ne (by omega)]
  · rw [Ck l i hl]
    conv => rhs; rw [JP (d := d) l i hl]
    simp only [List.filter_append, List.filter_cons]
    congr 1
    generalize l.getD i d = x at hk
    generalize l.getD (i + 1) d = y at hk
    by_cases k1 : key x = c
    · have k2 : ¬ key y = c := fun e => hk (k1.trans e.symm)
      simp [k1, k2]
    · simp [k1]
theorem cI {x y : List α} {i : Nat} (h : i < x.length) : (x ++ y).getD i d = x.getD i d := by
  simp only [List.getD_eq_getElem?_getD, List.getElem?_append_left h]
theorem ea {x y : List α} {i : Nat} (h : x.length ≤ i) : (x ++ y).getD i d = y.getD (i - x.length) d := by
  simp only [List.getD_eq_getElem?_getD, List.getElem?_append_right h]
theorem jk {x : List α} {i : Nat} (h : i < x.length) : x.getD i d ∈ x := by
  simp [List.getD_eq_getElem?_getD, h]
theorem Rl.rotate {P X Y S : List α} {a b : Nat} (ha : a ≤ P.length) (hb : P.length + X.length + Y.length ≤ b) (hk : ∀ x ∈ X, ∀ y ∈ Y, key x ≠ key y) : Rl key d (P ++ X ++ Y ++ S) (P ++ Y ++ X ++ S) a b := by
  have hin : ∀ i, P.length ≤ i → i < P.length + X.length + Y.length → ∃ j, P.length ≤ j ∧ j < P.length + X.length + Y.length ∧ (P ++ Y ++ X ++ S).getD i d = (P ++ X ++ Y ++ S).getD j d := by
    intro i i1 i2
    by_cases h1 : i < P.length + Y.length
    · refine ⟨i + X.length, by omega, by omega, ?_⟩
      rw [cI (by simp; omega), cI (by simp; omega), ea i1, cI (by simp; omega), ea (by simp; omega)]
      congr 1
      simp; omega
    · refine ⟨i - Y.length, by omega, by omega, ?_⟩
      rw [cI (by simp; omega), ea (by simp; omega), cI (by simp; omega), cI (by simp; omega), ea (by omega)]
      congr 1
      simp; omega
  have hout : ∀ i, i < P.length ∨ P.length + X.length + Y.length ≤ i → (P ++ Y ++ X ++ S).getD i d = (P ++ X ++ Y ++ S).getD i d := by
    intro i hi
    rcases hi with hi | hi
    · rw [cI (by simp; omega), cI (by simp; omega), cI hi, cI (by simp; omega), cI (by simp; omega), cI hi]
    · rw [ea (by simp; omega), ea (by simp; omega)]
      congr 1
      simp; omega
  refine ⟨by simp; omega, fun i hi => hout i (by omega), fun i i1 i2 => ?_, fun c => ?_⟩
  · by_cases hi : P.length ≤ i ∧ i < P.length + X.length + Y.length
    · obtain ⟨j, j1, j2, j3⟩ := hin i hi.1 hi.2
      exact ⟨j, by omega, by omega, j3⟩
    · exact ⟨i, i1, i2, hout i (by omega)⟩
  · simp only [List.filter_append]
    have : Y.filter (fun x => decide (key x = c)) ++ X.filter (fun x => decide (key x = c)) = X.filter (fun x => decide (key x = c)) ++ Y.filter (fun x => decide (key x = c)) := by
      by_cases hx : ∃ x ∈ X, key x = c
      · obtain ⟨x, x1, x2⟩ := hx
        have : Y.filter (fun x => decide (key x = c)) = [] := by
          rw [List.filter_eq_nil_iff]
          intro y hy
          simp
          intro e
          exact hk x x1 y hy (x2.trans e.symm)
        rw [this]; simp
      · have : X.filter (fun x => decide (key x = c)) = [] := by
          rw [List.filter_eq_nil_iff]
          intro y hy
          simp
          intro e
          exact hx ⟨y, hy, e⟩
        rw [this]; simp
    rw [List.append_assoc (P.filter _), this]
    simp [List.append_assoc]
theorem blocks (l : List α) (a m b : Nat) (h1 : a ≤ m) (h2 : m ≤ b) (h3 : b ≤ l.length) : ∃ P X Y S, l = P ++ X ++ Y ++ S ∧ P.length = a ∧ X.length = m - a ∧ Y.length = b - m ∧
    (∀ x ∈ X, ∃ i, a ≤ i ∧ i < m ∧ x = l.getD i d) ∧ (∀ y ∈ Y, ∃ i, m ≤ i ∧ i < b ∧ y = l.getD i d) := by
  refine ⟨l.take a, (l.drop a).take (m - a), (l.drop m).take (b - m), l.drop b, ?_, by simp; omega, by simp; omega, by simp; omega, ?_, ?_⟩
  · have e1 : l.take a ++ (l.drop a).take (m - a) = l.take m := by
      have := List.take_add (l := l) (i := a) (j := m - a)
      rw [show a + (m - a) = m by omega] at this
      exact this.symm
    have e2 : l.take m ++ (l.drop m).take (b - m) = l.take b := by
      have := List.take_add (l := l) (i := m) (j := b - m)
      rw [show m + (b - m) = b by omega] at this
      exact this.symm
    rw [e1, e2, List.take_append_drop]
  · intro x hx
    obtain ⟨i, hi⟩ := List.getElem?_of_mem hx
    have hlt := (List.getElem?_eq_some_iff.1 hi).1
    simp at hlt
    rw [List.getElem?_take_of_lt (by omega), List.getElem?_drop] at hi
    exact ⟨a + i, by omega, by omega, by simp [List.getD_eq_getElem?_getD, hi]⟩
  · intro x hx
    obtain ⟨i, hi⟩ := List.getElem?_of_mem hx
    have hlt := (List.getElem?_eq_some_iff.1 hi).1
    simp at hlt
    rw [List.getElem?_take_of_lt (by omega), List.getElem?_drop] at hi
    exact ⟨m + i, by omega, by omega, by simp [List.getD_eq_getElem?_getD, hi]⟩
theorem rj {P X Y S : List α} {i : Nat} : (P ++ Y ++ X ++ S).getD i d = (P ++ X ++ Y ++ S).getD (if i < P.length then i else if i < P.length + Y.length then i + X.length else if i < P.length + X.length + Y.length then i - Y.length else i) d := by
  split
  · rename_i hi
    rw [cI (by simp; omega), cI (by simp; omega), cI hi, cI (by simp; omega), cI (by simp; omega), cI hi]
  · split
    · rw [cI (by simp; omega), cI (by simp; omega), ea (by omega), cI (by simp; omega), ea (by simp; omega)]
      congr 1
      simp; omega
    · split
      · rw [cI (by simp; omega), ea (by simp; omega), cI (by simp; omega), cI (by simp; omega), ea (by omega)]
        congr 1
        simp; omega
      · rw [ea (by simp; omega), ea (by simp; omega)]
        congr 1
        simp; omega
theorem yB {P A B C S : List α} {k : Nat} (hA : k < A.length) (hC : C.length = A.length) :
    ((P ++ (C.take k ++ A.drop k) ++ B ++ (A.take k ++ C.drop k) ++ S).set (P.length + k) ((P ++ (C.take k ++ A.drop k) ++ B ++ (A.take k ++ C.drop k) ++ S).getD (P.length + A.length + B.length + k) d)).set (P.length + A.length + B.length + k) ((P ++ (C.take k ++ A.drop k) ++ B ++ (A.take k ++ C.drop k) ++ S).getD (P.length + k) d)
      = P ++ (C.take (k + 1) ++ A.drop (k + 1)) ++ B ++ (A.take (k + 1) ++ C.drop (k + 1)) ++ S := by
  have e1 : (P ++ (C.take k ++ A.drop k) ++ B ++ (A.take k ++ C.drop k) ++ S).getD (P.length + A.length + B.length + k) d = C[k] := by
    rw [cI (by simp; omega), ea (by simp; omega), ea (by simp; omega)]
    simp only [List.getD_eq_getElem?_getD, List.getElem?_drop]
    have : k + (P.length + A.length + B.length + k - (P ++ (C.take k ++ A.drop k) ++ B).length - (A.take k).length) = k := by simp; omega
    rw [this, List.getElem?_eq_getElem (by omega)]; rfl
  have e2 : (P ++ (C.take k ++ A.drop k) ++ B ++ (A.take k ++ C.drop k) ++ S).getD (P.length + k) d = A[k] := by
    rw [cI (by simp; omega), cI (by simp; omega), cI (by simp; omega), ea (by omega), ea (by simp; omega)]
    simp only [List.getD_eq_getElem?_getD, List.getElem?_drop]
    have : k + (P.length + k - P.length - (C.take k).length) = k := by simp; omega
    rw [this, List.getElem?_eq_getElem hA]; rfl
  rw [e1, e2]
  rw [show A.drop k = A[k] :: A.drop (k + 1) from List.drop_eq_getElem_cons hA, show C.drop k = C[k] :: C.drop (k + 1) from List.drop_eq_getElem_cons (by omega)]
  rw [List.take_succ_eq_append_getElem hA, List.take_succ_eq_append_getElem (show k < C.length by omega)]
  have f1 : ∀ (V : List α) (x : α), (P ++ (C.take k ++ A[k] :: A.drop (k + 1)) ++ V).set (P.length + k) x = P ++ (C.take k ++ x :: A.drop (k + 1)) ++ V := by
    intro V x
    rw [List.set_append_left _ _ (by simp; omega), List.set_append_right _ _ (by omega), List.set_append_right _ _ (by simp; omega)]
    congr 3
    have : P.length + k - P.length - (C.take k).length = 0 := by simp; omega
    rw [this]; rfl
  have f2 : ∀ (U : List α) (x : α), U.length = A.length → (P ++ U ++ B ++ (A.take k ++ C[k] :: C.drop (k + 1)) ++ S).set (P.length + A.length + B.length + k) x = P ++ U ++ B ++ (A.take k ++ x :: C.drop (k + 1)) ++ S := by
    intro U x hU
    rw [List.set_append_left _ _ (by simp; omega), List.set_append_right _ _ (by simp; omega), List.set_append_right _ _ (by simp; omega)]
    congr 3
    have : P.length + A.length + B.length + k - (P ++ U ++ B).length - (A.take k).length = 0 := by simp; omega
    rw [this]; rfl
  have g := f1 (B ++ (A.take k ++ C[k] :: C.drop (k + 1)) ++ S) C[k]
  simp only [List.append_assoc] at g f2 ⊢
  rw [g]
  have h := f2 (C.take k ++ C[k] :: A.drop (k + 1)) A[k] (by simp; omega)
  simp only [List.append_assoc] at h
  rw [h]
  simp
theorem Et {l : List α} {a m b bo s : Nat} (hml : b ≤ l.length) (ham : a < m) (hmb : m < b) (hmid : bo = (a + b) / 2) (h1 : Sd key d l a m) (h2 : Sd key d l m b)
    (hs0 : (if bo < m then bo + m - b else a) ≤ s) (hs1 : s ≤ (if bo < m then bo else m))
    (hy : (if bo < m then bo + m - b else a) < s → key (l.getD (s - 1) d) ≤ key (l.getD (bo + m - 1 - (s - 1)) d))
    (hn : s < (if bo < m then bo else m) → key (l.getD (bo + m - 1 - s) d) < key (l.getD s d)) :
    a ≤ s ∧ s ≤ bo ∧ s ≤ m ∧ m ≤ bo + m - s ∧ bo ≤ bo + m - s ∧ bo + m - s ≤ b ∧
    (s < m → m < bo + m - s → ∀ i j, s ≤ i → i < m → m ≤ j → j < bo + m - s → key (l.getD j d) < key (l.getD i d)) ∧
    (∀ i j, a ≤ i → i < s → bo + m - s ≤ j → j < b → key (l.getD i d) ≤ key (l.getD j d)) := by
  refine ⟨by split at hs0 <;> omega, by split at hs1 <;> omega, by split at hs1 <;> omega, by split at hs1 <;> omega, by split at hs1 <;> omega, by split at hs0 <;> omega, ?_, ?_⟩
  · intro h3 h4 i j i1 i2 j1 j2
    have hlt : s < (if bo < m then bo else m) := by split <;> omega
    have h5 := hn hlt
    have h6 := h1 s i (by split at hs0 <;> omega) i1 i2
    have h7 := h2 j (bo + m - 1 - s) j1 (by omega) (by split at hs0 <;> omega)
    omega
  · intro i j i1 i2 j1 j2
    have hlt : (if bo < m then bo + m - b else a) < s := by
      rcases Nat.lt_or_ge (if bo < m then bo + m - b else a) s with h | h
      · exact h
      · exfalso; split at h <;> omega
    have h5 := hy hlt
    have h6 := h1 i (s - 1) i1 (by omega) (by split at hs1 <;> omega)
    have h7 := h2 (bo + m - 1 - (s - 1)) j (by split at hs1 <;> omega) (by omega) j2
    omega
theorem unique {l1 l2 : List α} (h1 : Sd key d l1 0 l1.length) (h2 : Sd key d l2 0 l2.length) (h : ∀ c, l1.filter (fun x => decide (key x = c)) = l2.filter (fun x => decide (key x = c))) : l1 = l2 := by
  induction l1 generalizing l2 with
  | nil =>
    cases l2 with
    | nil => rfl
    | cons y l2 => have := h (key y); simp at this
  | cons x l1 ih =>
    cases l2 with
    | nil => have := h (key x); simp at this
    | cons y l2 =>
      have hx : key y ≤ key x := by
        have hm : x ∈ (y :: l2) := by
          have hf : x ∈ (x :: l1).filter (fun z => decide (key z = key x)) := by simp
          rw [h (key x)] at hf
          exact (List.mem_filter.1 hf).1
        obtain ⟨j, hj⟩ := List.getElem?_of_mem hm
        have hlt := (List.getElem?_eq_some_iff.1 hj).1
        have := h2 0 j (Nat.le_refl _) (Nat.zero_le _) hlt
        simpa [List.getD_eq_getElem?_getD, hj] using this
      have hy : key x ≤ key y := by
        have hm : y ∈ (x :: l1) := by
          have hf : y ∈ (y :: l2).filter (fun z => decide (key z = key y)) := by simp
          rw [← h (key y)] at hf
          exact (List.mem_filter.1 hf).1
        obtain ⟨j, hj⟩ := List.getElem?_of_mem hm
        have hlt := (List.getElem?_eq_some_iff.1 hj).1
        have := h1 0 j (Nat.le_refl _) (Nat.zero_le _) hlt
        simpa [List.getD_eq_getElem?_getD, hj] using this
      have hk : key x = key y := by omega
      have hxy : x = y := by
        have := h (key x)
        simp [hk] at this
        exact this.1
      subst hxy
      congr 1
      refine ih (fun i j i1 i2 i3 => ?_) (fun i j i1 i2 i3 => ?_) (fun c => ?_)
      · have := h1 (i + 1) (j + 1) (by omega) (by omega) (by simp; omega)
        simpa [List.getD_eq_getElem?_getD] using this
      · have := h2 (i + 1) (j + 1) (by omega) (by omega) (by simp; omega)
        simpa [List.getD_eq_getElem?_getD] using this
      · have := h c
        simp only [List.filter_cons] at this
        split at this
        · simpa using this
        · exact this
end Go.dv
namespace Go.dv
variable {α : Type} {key : α → Int} {d : α}
theorem Rl.pd {Pd : α → Prop} {l l' : List α} {a b n : Nat} (h : Rl key d l l' a b) (hb : b ≤ n) (hp : ∀ i, i < n → Pd (l.getD i d)) : ∀ i, i < n → Pd (l'.getD i d) := fun i hi => by
  by_cases h1 : a ≤ i ∧ i < b
  · obtain ⟨j, j1, j2, j3⟩ := h.mem i h1.1 h1.2
    rw [j3]; exact hp j (by omega)
  · rw [h.out i (by omega)]; exact hp i hi
def Ins (key : α → Int) (d : α) (l : List α) (a j i : Nat) : Prop := ∀ x y, a ≤ x → x ≤ y → y ≤ i → y ≠ j → key (l.getD x d) ≤ key (l.getD y d)
theorem Ins.start {l : List α} {a i : Nat} (h : Sd key d l a i) : Ins key d l a i i := fun x y h1 h2 h3 h4 => h x y h1 h2 (by omega)
theorem k7 {l : List α} {j k : Nat} (hj : 0 < j) (hl : j < l.length) : ((l.set j (l.getD (j - 1) d)).set (j - 1) (l.getD j d)).getD k d = if k = j then l.getD (j - 1) d else if k = j - 1 then l.getD j d else l.getD k d := by
  by_cases e1 : k = j
  · subst e1
    rw [if_pos rfl]
    simp only [List.getD_eq_getElem?_getD]
    rw [List.getElem?_set_ne (by omega)]
    simp [hl]
  · rw [if_neg e1]
    by_cases e2 : k = j - 1
    · subst e2
      rw [if_pos rfl]
      simp only [List.getD_eq_getElem?_getD]
      simp [show j - 1 < l.length by omega]
    · rw [if_neg e2]
      simp only [List.getD_eq_getElem?_getD]
      rw [List.getElem?_set_ne (by omega), List.getElem?_set_ne (by omega)]
theorem Ins.step {l : List α} {a j i : Nat} (h : Ins key d l a j i) (h1 : a < j) (h2 : j ≤ i) (hl : j < l.length) (hk : key (l.getD j d) < key (l.getD (j - 1) d)) : Ins key d ((l.set j (l.getD (j - 1) d)).set (j - 1) (l.getD j d)) a (j - 1) i := fun x y x1 x2 x3 x4 => by
  rw [k7 (by omega) hl, k7 (by omega) hl, if_neg x4]
  by_cases ey : y = j
  · rw [if_pos ey]
    by_cases ex : x = j
    · rw [if_pos ex]; exact Int.le_refl _
    · rw [if_neg ex]
      by_cases ex2 : x = j - 1
      · rw [if_pos ex2]; omega
      · rw [if_neg ex2]; exact h x (j - 1) x1 (by omega) (by omega) (by omega)
  · rw [if_neg ey]
    by_cases ex : x = j
    · rw [if_pos ex]; exact h (j - 1) y (by omega) (by omega) x3 ey
    · rw [if_neg ex]
      by_cases ex2 : x = j - 1
      · rw [if_pos ex2]; exact h j y (by omega) (by omega) x3 ey
      · rw [if_neg ex2]; exact h x y x1 x2 x3 ey
theorem Rl.GS {l : List α} {a b j : Nat} (h1 : a < j) (h2 : j < b) (hl : j < l.length) (hk : key (l.getD j d) < key (l.getD (j - 1) d)) : Rl key d l ((l.set j (l.getD (j - 1) d)).set (j - 1) (l.getD j d)) a b := by
  obtain ⟨i, rfl⟩ : ∃ i, j = i + 1 := ⟨j - 1, by omega⟩
  rw [show i + 1 - 1 = i by omega] at hk ⊢
  rw [swap_comm]
  exact Rl.swap (by omega) h2 hl (by omega)
theorem Rl.N8 {l : List α} {a b j : Nat} (h1 : a ≤ j) (h2 : j + 1 < b) (hl : j + 1 < l.length) (hk : key (l.getD (j + 1) d) ≠ key (l.getD j d)) : Rl key d l ((l.set j (l.getD (j + 1) d)).set (j + 1) (l.getD j d)) a b :=
  Rl.swap h1 h2 hl (fun e => hk e.symm)
theorem Ins.fin {l : List α} {a j i : Nat} (h : Ins key d l a j i) (hj : a ≤ j) (he : j = a ∨ key (l.getD (j - 1) d) ≤ key (l.getD j d)) : Sd key d l a (i + 1) := fun x y h1 h2 h3 => by
  by_cases ey : y = j
  · subst ey
    by_cases ex : x = y
    · subst ex; exact Int.le_refl _
    · rcases he with he | he
      · omega
      · exact Int.le_trans (h x (y - 1) h1 (by omega) (by omega) (by omega)) he
  · exact h x y h1 h2 (by omega) ey
end Go.dv
namespace Go.dv
variable {α : Type} {key : α → Int} {d : α}
theorem NG {l : List α} {m b h : Nat} {k : Int} (hs : Sd key d l m b) (h1 : m ≤ h) (h2 : h < b) (hk : key (l.getD h d) < k) : ∀ x, m ≤ x → x < h + 1 → key (l.getD x d) < k := fun x x1 x2 => by
  have := hs x h x1 (by omega) h2; omega
theorem OD {l : List α} {m b h : Nat} {k : Int} (hs : Sd key d l m b) (h1 : m ≤ h) (h2 : h < b) (hk : k ≤ key (l.getD h d)) : ∀ x, h ≤ x → x < b → k ≤ key (l.getD x d) := fun x x1 x2 => by
  have := hs h x h1 x1 x2; omega
theorem Ny {l : List α} {m b h : Nat} {k : Int} (hs : Sd key d l m b) (h1 : m ≤ h) (h2 : h < b) (hk : key (l.getD h d) ≤ k) : ∀ x, m ≤ x → x < h + 1 → key (l.getD x d) ≤ k := fun x x1 x2 => by
  have := hs x h x1 (by omega) h2; omega
theorem OZ {l : List α} {m b h : Nat} {k : Int} (hs : Sd key d l m b) (h1 : m ≤ h) (h2 : h < b) (hk : k < key (l.getD h d)) : ∀ x, h ≤ x → x < b → k < key (l.getD x d) := fun x x1 x2 => by
  have := hs h x h1 x1 x2; omega
structure Mv (key : α → Int) (d : α) (l l2 : List α) (a b k : Nat) : Prop where
  rl : Rl key d l l2 a b
  at_ : l2.getD k d = l.getD a d
  lo : ∀ x, a ≤ x → x < k → l2.getD x d = l.getD (x + 1) d
  hi : ∀ x, k < x → l2.getD x d = l.getD x d
theorem Mv.start (l : List α) (a b : Nat) : Mv key d l l a b a := ⟨Rl.refl _ _ _, rfl, fun x h1 h2 => by omega, fun _ _ => rfl⟩
theorem pT {l : List α} {j k : Nat} (hl : j + 1 < l.length) : ((l.set j (l.getD (j + 1) d)).set (j + 1) (l.getD j d)).getD k d = if k = j then l.getD (j + 1) d else if k = j + 1 then l.getD j d else l.getD k d := by
  have := k7 (d := d) (l := l) (j := j + 1) (k := k) (by omega) hl
  rw [show j + 1 - 1 = j by omega] at this
  rw [swap_comm] at this
  rw [this]
  by_cases e1 : k = j
  · rw [if_neg (by omega), if_pos e1, if_pos e1]
  · by_cases e2 : k = j + 1
    · rw [if_pos e2, if_neg e1, if_pos e2]
    · rw [if_neg e2, if_neg e1, if_neg e1, if_neg e2]
theorem Mv.step {l l2 : List α} {a b k : Nat} (h : Mv key d l l2 a b k) (h1 : a ≤ k) (h2 : k + 1 < b) (hl : b ≤ l.length) (hk : key (l.getD (k + 1) d) < key (l.getD a d)) : Mv key d l ((l2.set k (l2.getD (k + 1) d)).set (k + 1) (l2.getD k d)) a b (k + 1) := by
  have hlen := h.rl.len
  refine ⟨h.rl.trans (Rl.N8 h1 h2 (by omega) (by rw [h.at_, h.hi _ (by omega)]; omega)), ?_, fun x x1 x2 => ?_, fun x x1 => ?_⟩
  · rw [pT (by omega), if_neg (by omega), if_pos rfl, h.at_]
  · rw [pT (by omega)]
    by_cases e : x = k
    · subst e; rw [if_pos rfl, h.hi _ (by omega)]
    · rw [if_neg e, if_neg (by omega), h.lo x x1 (by omega)]
  · rw [pT (by omega), if_neg (by omega), if_neg (by omega), h.hi x (by omega)]
theorem Mv.fin {l l2 : List α} {a b i : Nat} (h : Mv key d l l2 a b (i - 1)) (ha : a + 1 ≤ i) (hi : i ≤ b) (hs : Sd key d l (a + 1) b) (hlo : ∀ x, a + 1 ≤ x → x < i → key (l.getD x d) < key (l.getD a d)) (hhi : ∀ x, i ≤ x → x < b → key (l.getD a d) ≤ key (l.getD x d)) : Sd key d l2 a b := by
  have get : ∀ x, a ≤ x → l2.getD x d = if x < i - 1 then l.getD (x + 1) d else if x = i - 1 then l.getD a d else l.getD x d := by
    intro x hx
    by_cases e1 : x < i - 1
    · rw [if_pos e1, h.lo x hx e1]
    · rw [if_neg e1]
      by_cases e2 : x = i - 1
      · rw [if_pos e2, e2, h.at_]
      · rw [if_neg e2, h.hi x (by omega)]
  intro x y x1 x2 x3
  rw [get x x1, get y (by omega)]
  by_cases e1 : x < i - 1
  · rw [if_pos e1]
    by_cases f1 : y < i - 1
    · rw [if_pos f1]; exact hs _ _ (by omega) (by omega) (by omega)
    · rw [if_neg f1]
      by_cases f2 : y = i - 1
      · rw [if_pos f2]; have := hlo (x + 1) (by omega) (by omega); omega
      · rw [if_neg f2]; exact hs _ _ (by omega) (by omega) (by omega)
  · rw [if_neg e1]
    by_cases e2 : x = i - 1
    · rw [if_pos e2, if_neg (by omega)]
      by_cases f2 : y = i - 1
      · rw [if_pos f2]; exact Int.le_refl _
      · rw [if_neg f2]; exact hhi y (by omega) x3
    · rw [if_neg e2, if_neg (by omega), if_neg (by omega)]; exact hs _ _ (by omega) x2 x3
structure Mw (key : α → Int) (d : α) (l l2 : List α) (a b m k : Nat) : Prop where
  rl : Rl key d l l2 a b
  at_ : l2.getD k d = l.getD m d
  hi : ∀ x, k < x → x ≤ m → l2.getD x d = l.getD (x - 1) d
  lo : ∀ x, x < k → l2.getD x d = l.getD x d
  up : ∀ x, m < x → l2.getD x d = l.getD x d
theorem Mw.start (l : List α) (a b m : Nat) : Mw key d l l a b m m := ⟨Rl.refl _ _ _, rfl, fun x h1 h2 => by omega, fun _ _ => rfl, fun _ _ => rfl⟩
theorem Mw.step {l l2 : List α} {a b m k : Nat} (h : Mw key d l l2 a b m k) (h0 : a < k) (h1 : k ≤ m) (h2 : m < b) (hl : b ≤ l.length) (hk : key (l.getD m d) < key (l.getD (k - 1) d)) : Mw key d l ((l2.set k (l2.getD (k - 1) d)).set (k - 1) (l2.getD k d)) a b m (k - 1) := by
  have hlen := h.rl.len
  refine ⟨h.rl.trans (Rl.GS h0 (by omega) (by omega) (by rw [h.at_, h.lo _ (by omega)]; exact hk)), ?_, fun x x1 x2 => ?_, fun x x1 => ?_, fun x x1 => ?_⟩
  · rw [k7 (by omega) (by omega), if_neg (by omega), if_pos rfl, h.at_]
  · rw [k7 (by omega) (by omega)]
    by_cases e : x = k
    · subst e; rw [if_pos rfl, h.lo _ (by omega)]
    · rw [if_neg e, if_neg (by omega), h.hi x (by omega) x2]
  · rw [k7 (by omega) (by omega), if_neg (by omega), if_neg (by omega), h.lo x (by omega)]
  · rw [k7 (by omega) (by omega), if_neg (by omega), if_neg (by omega), h.up x x1]
theorem Mw.fin {l l2 : List α} {a b i : Nat} {m : Nat} (h : Mw key d l l2 a b m i) (ha : a ≤ i) (hi : i ≤ m) (hb : b = m + 1) (hs : Sd key d l a m) (hlo : ∀ x, a ≤ x → x < i → key (l.getD x d) ≤ key (l.getD m d)) (hhi : ∀ x, i ≤ x → x < m → key (l.getD m d) < key (l.getD x d)) : Sd key d l2 a b := by
  have get : ∀ x, x ≤ m → l2.getD x d = if x < i then l.getD x d else if x = i then l.getD m d else l.getD (x - 1) d := by
    intro x hx
    by_cases e1 : x < i
    · rw [if_pos e1, h.lo x e1]
    · rw [if_neg e1]
      by_cases e2 : x = i
      · rw [if_pos e2, e2, h.at_]
      · rw [if_neg e2, h.hi x (by omega) hx]
  intro x y x1 x2 x3
  rw [get x (by omega), get y (by omega)]
  by_cases e1 : x < i
  · rw [if_pos e1]
    by_cases f1 : y < i
    · rw [if_pos f1]; exact hs _ _ x1 x2 (by omega)
    · rw [if_neg f1]
      by_cases f2 : y = i
      · rw [if_pos f2]; exact hlo x x1 e1
      · rw [if_neg f2]; exact hs _ _ x1 (by omega) (by omega)
  · rw [if_neg e1]
    by_cases e2 : x = i
    · rw [if_pos e2, if_neg (show ¬ y < i by omega)]
      by_cases f2 : y = i
      · rw [if_pos f2]; exact Int.le_refl _
      · rw [if_neg f2]; have := hhi (y - 1) (by omega) (by omega); omega
    · rw [if_neg e2, if_neg (show ¬ y < i by omega), if_neg (show ¬ y = i by omega)]; exact hs _ _ (by omega) (by omega) (by omega)
structure nQ (key : α → Int) (d : α) (l l1 : List α) (a s bo e b : Nat) : Prop where
  rl : Rl key d l l1 a b
  s1 : Sd key d l1 a s
  s2 : Sd key d l1 s bo
  s3 : Sd key d l1 bo e
  s4 : Sd key d l1 e b
  cr : ∀ i j, a ≤ i → i < bo → bo ≤ j → j < b → key (l1.getD i d) ≤ key (l1.getD j d)
theorem nQ.stay {l : List α} {a m b bo s : Nat} (h1 : Sd key d l a m) (h2 : Sd key d l m b) (hs : a ≤ s ∧ s ≤ bo ∧ s ≤ m ∧ m ≤ bo + m - s ∧ bo ≤ bo + m - s ∧ bo + m - s ≤ b)
    (hc : ∀ i j, a ≤ i → i < s → bo + m - s ≤ j → j < b → key (l.getD i d) ≤ key (l.getD j d)) (hn : ¬ (s < m ∧ m < bo + m - s)) : nQ key d l l a s bo (bo + m - s) b := by
  obtain ⟨e1, e2, e3, e4, e5, e6⟩ := hs
  by_cases hm : s = m
  · subst hm
    have he : bo + s - s = bo := by omega
    rw [he] at hc ⊢
    refine ⟨Rl.refl _ _ _, h1, h2.sub (Nat.le_refl _) (by omega), Sd.small (by omega), h2.sub e2 (Nat.le_refl _), fun i j i1 i2 j1 j2 => ?_⟩
    by_cases hi : i < s
    · exact hc i j i1 hi j1 j2
    · exact h2 i j (by omega) (by omega) j2
  · have hs2 : s = bo := by omega
    subst hs2
    have he : s + m - s = m := by omega
    rw [he] at hc ⊢
    refine ⟨Rl.refl _ _ _, h1.sub (Nat.le_refl _) (by omega), Sd.small (by omega), h1.sub e1 (Nat.le_refl _), h2, fun i j i1 i2 j1 j2 => ?_⟩
    by_cases hj : j < m
    · exact h1 i j i1 (by omega) hj
    · exact hc i j i1 i2 (by omega) j2
theorem nQ.RD {P X Y Z : List α} {a m b bo s : Nat} (hP : P.length = s) (hX : X.length = m - s) (hY : Y.length = bo + m - s - m) (h1 : Sd key d (P ++ X ++ Y ++ Z) a m) (h2 : Sd key d (P ++ X ++ Y ++ Z) m b) (hs : a ≤ s ∧ s ≤ bo ∧ s ≤ m ∧ m ≤ bo + m - s ∧ bo ≤ bo + m - s ∧ bo + m - s ≤ b)
    (hlt : ∀ i j, s ≤ i → i < m → m ≤ j → j < bo + m - s → key ((P ++ X ++ Y ++ Z).getD j d) < key ((P ++ X ++ Y ++ Z).getD i d))
    (hc : ∀ i j, a ≤ i → i < s → bo + m - s ≤ j → j < b → key ((P ++ X ++ Y ++ Z).getD i d) ≤ key ((P ++ X ++ Y ++ Z).getD j d))
    (hXm : ∀ x ∈ X, ∃ i, s ≤ i ∧ i < m ∧ x = (P ++ X ++ Y ++ Z).getD i d) (hYm : ∀ y ∈ Y, ∃ i, m ≤ i ∧ i < bo + m - s ∧ y = (P ++ X ++ Y ++ Z).getD i d) :
    nQ key d (P ++ X ++ Y ++ Z) (P ++ Y ++ X ++ Z) a s bo (bo + m - s) b := by
  obtain ⟨e1, e2, e3, e4, e5, e6⟩ := hs
  have hr : Rl key d (P ++ X ++ Y ++ Z) (P ++ Y ++ X ++ Z) a b := Rl.rotate (by omega) (by omega) (fun x hx y hy => by
    obtain ⟨i, i1, i2, rfl⟩ := hXm x hx
    obtain ⟨j, j1, j2, rfl⟩ := hYm y hy
    have := hlt i j i1 i2 j1 j2
    omega)
  have g1 : ∀ i, i < s → (P ++ Y ++ X ++ Z).getD i d = (P ++ X ++ Y ++ Z).getD i d := fun i hi => by rw [rj, if_pos (by omega)]
  have g2 : ∀ i, s ≤ i → i < bo → (P ++ Y ++ X ++ Z).getD i d = (P ++ X ++ Y ++ Z).getD (i + (m - s)) d := fun i i1 i2 => by rw [rj, if_neg (by omega), if_pos (by omega), hX]
  have g3 : ∀ i, bo ≤ i → i < bo + m - s → (P ++ Y ++ X ++ Z).getD i d = (P ++ X ++ Y ++ Z).getD (i - (bo + m - s - m)) d := fun i i1 i2 => by rw [rj, if_neg (by omega), if_neg (by omega), if_pos (by omega), hY]
  have g4 : ∀ i, bo + m - s ≤ i → (P ++ Y ++ X ++ Z).getD i d = (P ++ X ++ Y ++ Z).getD i d := fun i hi => by rw [rj, if_neg (by omega), if_neg (by omega), if_neg (by omega)]
  refine ⟨hr, fun i j i1 i2 i3 => ?_, fun i j i1 i2 i3 => ?_, fun i j i1 i2 i3 => ?_, fun i j i1 i2 i3 => ?_, fun i j i1 i2 j1 j2 => ?_⟩
  · rw [g1 i (by omega), g1 j (by omega)]; exact h1 i j i1 i2 (by omega)
  · rw [g2 i i1 (by omega), g2 j (by omega) i3]; exact h2 _ _ (by omega) (by omega) (by omega)
  · rw [g3 i i1 (by omega), g3 j (by omega) i3]; exact h1 _ _ (by omega) (by omega) (by omega)
  · rw [g4 i i1, g4 j (by omega)]; exact h2 _ _ (by omega) i2 i3
  · by_cases hi : i < s
    · rw [g1 i hi]
      by_cases hj : j < bo + m - s
      · rw [g3 j j1 hj]; exact h1 _ _ i1 (by omega) (by omega)
      · rw [g4 j (by omega)]; exact hc i j i1 hi (by omega) j2
    · rw [g2 i (by omega) i2]
      by_cases hj : j < bo + m - s
      · rw [g3 j j1 hj]
        have := hlt (j - (bo + m - s - m)) (i + (m - s)) (by omega) (by omega) (by omega) (by omega)
        omega
      · rw [g4 j (by omega)]; exact h2 _ _ (by omega) (by omega) j2
theorem oG {l1 l2 : List α} {a bo b : Nat} (h : ∀ i j, a ≤ i → i < bo → bo ≤ j → j < b → key (l1.getD i d) ≤ key (l1.getD j d)) (hr : Rl key d l1 l2 a bo) : ∀ i j, a ≤ i → i < bo → bo ≤ j → j < b → key (l2.getD i d) ≤ key (l2.getD j d) := fun i j i1 i2 j1 j2 => by
  obtain ⟨k, k1, k2, e⟩ := hr.mem i i1 i2
  rw [e, hr.out j (by omega)]
  exact h k j k1 k2 j1 j2
theorem yC {l1 l2 : List α} {a bo b : Nat} (h : ∀ i j, a ≤ i → i < bo → bo ≤ j → j < b → key (l1.getD i d) ≤ key (l1.getD j d)) (hr : Rl key d l1 l2 bo b) : ∀ i j, a ≤ i → i < bo → bo ≤ j → j < b → key (l2.getD i d) ≤ key (l2.getD j d) := fun i j i1 i2 j1 j2 => by
  obtain ⟨k, k1, k2, e⟩ := hr.mem j j1 j2
  rw [e, hr.out i (by omega)]
  exact h i k i1 i2 k1 k2
theorem Mm {l : List α} {a m b bo h st0 r0 : Nat} (ham : a < m) (hmb : m < b) (hmid : bo = (a + b) / 2) (h1 : Sd key d l a m) (h2 : Sd key d l m b) (e0 : st0 = if bo < m then bo + m - b else a) (e1 : r0 = if bo < m then bo else m) (i1 : st0 ≤ h) (i2 : h < r0)
    (hk : key (l.getD h d) ≤ key (l.getD (bo + m - 1 - h) d)) : ∀ x, st0 ≤ x → x < h + 1 → key (l.getD x d) ≤ key (l.getD (bo + m - 1 - x) d) := fun x x1 x2 => by
  have f1 := h1 x h (by split at e0 <;> omega) (by omega) (by split at e1 <;> omega)
  have f2 := h2 (bo + m - 1 - h) (bo + m - 1 - x) (by split at e1 <;> omega) (by omega) (by split at e0 <;> omega)
  omega
theorem L4 {l : List α} {a m b bo h st0 r0 : Nat} (ham : a < m) (hmb : m < b) (hmid : bo = (a + b) / 2) (h1 : Sd key d l a m) (h2 : Sd key d l m b) (e0 : st0 = if bo < m then bo + m - b else a) (e1 : r0 = if bo < m then bo else m) (i1 : st0 ≤ h) (i2 : h < r0)
    (hk : key (l.getD (bo + m - 1 - h) d) < key (l.getD h d)) : ∀ x, h ≤ x → x < r0 → key (l.getD (bo + m - 1 - x) d) < key (l.getD x d) := fun x x1 x2 => by
  have f1 := h1 h x (by split at e0 <;> omega) (by omega) (by split at e1 <;> omega)
  have f2 := h2 (bo + m - 1 - x) (bo + m - 1 - h) (by split at e1 <;> omega) (by omega) (by split at e0 <;> omega)
  omega
end Go.dv
namespace Go.dv
variable {α : Type} {key : α → Int} {d : α}
theorem uI {b x A : Nat} (h1 : b ∣ x) (h2 : b ∣ A) (h : x ≤ A) : x = A ∨ x + b ≤ A := by
  obtain ⟨u, rfl⟩ := h1
  obtain ⟨v, rfl⟩ := h2
  rcases Nat.eq_zero_or_pos b with hb | hb
  · subst hb; left; simp
  · have huv : u ≤ v := Nat.le_of_mul_le_mul_left h hb
    rcases Nat.lt_or_ge u v with h3 | h3
    · right
      have := Nat.mul_le_mul_left b h3
      rw [Nat.mul_succ] at this
      exact this
    · left; congr 1; omega
def Bk (key : α → Int) (d : α) (l : List α) (s n : Nat) : Prop := ∀ x, s ∣ x → Sd key d l x (min (x + s) n)
def Bd (key : α → Int) (d : α) (l : List α) (s A : Nat) : Prop := ∀ x, s ∣ x → x + s ≤ A → Sd key d l x (x + s)
theorem Bd.zero (l : List α) (s : Nat) (hs : 0 < s) : Bd key d l s 0 := fun x _ h => by omega
theorem Bd.step {l l2 : List α} {s A : Nat} (h : Bd key d l s A) (hA : s ∣ A) (hr : Rl key d l l2 A (s + A)) (h2 : Sd key d l2 A (s + A)) : Bd key d l2 s (s + A) := fun x hx hle => by
  rcases uI hx hA (by omega) with e | e
  · subst e; exact h2.sub (Nat.le_refl _) (by omega)
  · exact (h x hx e).congr (fun i i1 i2 => hr.out i (by omega))
theorem Bd.fin {l l2 : List α} {s A n : Nat} (h : Bd key d l s A) (hA : s ∣ A) (hAn : A ≤ n) (hn : n < s + A) (hr : Rl key d l l2 A n) (h2 : Sd key d l2 A n) : Bk key d l2 s n := fun x hx => by
  rcases Nat.lt_or_ge A x with h3 | h3
  · rcases uI hA hx (Nat.le_of_lt h3) with e | e
    · omega
    · exact Sd.small (by omega)
  · rcases uI hx hA h3 with e | e
    · subst e; exact h2.sub (Nat.le_refl _) (by omega)
    · rw [Nat.min_eq_left (by omega)]
      exact (h x hx e).congr (fun i i1 i2 => hr.out i (by omega))
def Br (key : α → Int) (d : α) (l : List α) (s n A : Nat) : Prop := ∀ x, s ∣ x → A ≤ x → Sd key d l x (min (x + s) n)
theorem Bk.br {l : List α} {s n : Nat} (h : Bk key d l s n) : Br key d l s n 0 := fun x hx _ => h x hx
theorem Br.step {l l2 : List α} {s n A B : Nat} (h : Br key d l s n A) (hAB : A ≤ B) (hr : Rl key d l l2 A B) : Br key d l2 s n B := fun x hx hle => (h x hx (by omega)).congr (fun i i1 i2 => hr.out i (by omega))
theorem oE {s A : Nat} (h : 2 * s ∣ A) : s ∣ A := Nat.dvd_trans ⟨2, by rw [Nat.mul_comm]⟩ h
theorem Br.two {l : List α} {s n A : Nat} (h : Br key d l s n A) (hA : 2 * s ∣ A) (hn : 2 * s + A ≤ n) : Sd key d l A (A + s) ∧ Sd key d l (A + s) (2 * s + A) := by
  have h1 := h A (oE hA) (Nat.le_refl _)
  have h2 := h (A + s) (Nat.dvd_add (oE hA) (Nat.dvd_refl _)) (by omega)
  rw [Nat.min_eq_left (by omega)] at h1
  rw [Nat.min_eq_left (by omega)] at h2
  exact ⟨h1, h2.sub (Nat.le_refl _) (by omega)⟩
theorem Br.last {l : List α} {s n A : Nat} (h : Br key d l s n A) (hA : 2 * s ∣ A) (hn : n < 2 * s + A) (hm : A + s < n) : Sd key d l A (A + s) ∧ Sd key d l (A + s) n := by
  have h1 := h A (oE hA) (Nat.le_refl _)
  have h2 := h (A + s) (Nat.dvd_add (oE hA) (Nat.dvd_refl _)) (by omega)
  rw [Nat.min_eq_left (by omega)] at h1
  rw [Nat.min_eq_right (by omega)] at h2
  exact ⟨h1, h2⟩
theorem Br.one {l : List α} {s n A : Nat} (h : Br key d l s n A) (hA : 2 * s ∣ A) (hm : n ≤ A + s) : Sd key d l A n := by
  have h1 := h A (oE hA) (Nat.le_refl _)
  rwa [Nat.min_eq_right (by omega)] at h1
theorem Bk.all {l : List α} {s n : Nat} (h : Bk key d l s n) (hn : n ≤ s) : Sd key d l 0 n := by
  have := h 0 (Nat.dvd_zero _)
  rwa [Nat.min_eq_right (by omega)] at this
end Go.dv
namespace Go.af
def cls (ls : List Int) (n : Nat) : List Int := ((List.range ls.length).filter (fun i => decide (ls.getD i 0 = (n : Int)))).map (fun i : Nat => (i : Int))
def gj (ls : List Int) : Nat → List Int
  | 0 => []
  | n + 1 => gj ls n ++ cls ls (n + 1)
def ord (ls : List Int) : List Int := gj ls 15
def off (ls : List Int) : Nat → Nat
  | 0 => 0
  | n + 1 => (gj ls n).length
def cnt (ls : List Int) (n : Nat) : Int := if n = 0 then 0 else ((cls ls n).length : Int)
def cM (ls : List Int) : List Int := (List.range 16).map (cnt ls)
def base (ls : List Int) : Nat → Int
  | 0 => 0
  | n + 1 => 2 * (base ls n + cnt ls n)
def lenOf (ls : List Int) (s : Nat) : Nat := (ls.getD s 0).toNat
def fV (ls : List Int) (s : Nat) : Int := base ls (lenOf ls s) + ((cls (ls.take s) (lenOf ls s)).length : Int)
def Vl (ls : List Int) : Prop := ls.length ≤ 320 ∧ ∀ x ∈ ls, 0 ≤ x ∧ x ≤ 15
theorem ko (ls : List Int) : (cM ls).length = 16 := by simp [cM]
theorem oT {ls : List Int} {n : Nat} (h : n < 16) : (cM ls).getD n 0 = cnt ls n := by simp [cM, List.getD_eq_getElem?_getD, h]
theorem AV (ls : List Int) (n : Nat) : (cls ls n).length ≤ ls.length := by
  unfold cls
  have := List.length_filter_le (fun i => decide (ls.getD i 0 = (n : Int))) (List.range ls.length)
  simpa using this
theorem ja (ls : List Int) (n : Nat) : 0 ≤ cnt ls n := by unfold cnt; split <;> omega
theorem Ns (ls : List Int) (n : Nat) : cnt ls n ≤ ls.length := by
  have := AV ls n
  unfold cnt; split <;> omega
theorem getD_take {ls : List Int} {i k : Nat} (h : i < k) : (ls.take k).getD i 0 = ls.getD i 0 := by
  simp [List.getD_eq_getElem?_getD, List.getElem?_take, h]
theorem sC {ls : List Int} {k n : Nat} (h : k < ls.length) : cls (ls.take (k + 1)) n = cls (ls.take k) n ++ (if ls[k] = (n : Int) then [(k : Int)] else []) := by
  unfold cls
  have e1 : (ls.take (k + 1)).length = k + 1 := by simp; omega
  have e2 : (ls.take k).length = k := by simp; omega
  rw [e1, e2, List.range_succ, List.filter_append, List.map_append]
  congr 1
  · congr 1
    apply List.filter_congr
    intro i hi
    have hi := List.mem_range.1 hi
    rw [getD_take (by omega), getD_take hi]
  · have : (ls.take (k + 1)).getD k 0 = ls[k] := by rw [getD_take (by omega)]; simp [List.getD_eq_getElem?_getD, h]
    by_cases he : ls[k] = (n : Int)
    · simp only [List.filter_cons, List.filter_nil, this, he, decide_true, decide_false, if_true, if_false, List.map_cons, List.map_nil]; try rfl
    · simp only [List.filter_cons, List.filter_nil, this, he, decide_true, decide_false, if_true, if_false, List.map_cons, List.map_nil]; try rfl
theorem Ea (n : Nat) : cls [] n = [] := by simp [cls]
theorem sB {ls : List Int} {k n : Nat} (h : k < ls.length) : cnt (ls.take (k + 1)) n = cnt (ls.take k) n + (if n ≠ 0 ∧ ls[k] = (n : Int) then 1 else 0) := by
  unfold cnt
  by_cases h0 : n = 0
  · simp [h0]
  · rw [if_neg h0, if_neg h0, sC h]
    by_cases he : ls[k] = (n : Int)
    · simp [he, h0]
    · simp [he]
theorem Bq {ls : List Int} {k : Nat} (h : k < ls.length) (h1 : 0 < ls[k]) (h2 : ls[k] ≤ 15) : cM (ls.take (k + 1)) = (cM (ls.take k)).set ls[k].toNat ((cM (ls.take k)).getD ls[k].toNat 0 + 1) := by
  apply List.ext_getElem?
  intro i
  by_cases hi : i < 16
  · rw [List.getElem?_set]
    by_cases he : ls[k].toNat = i
    · rw [if_pos he, if_pos (by rw [ko]; omega), he, oT hi]
      simp only [cM, List.getElem?_map, List.getElem?_range hi, Option.map_some]
      rw [sB h, if_pos ⟨by omega, by omega⟩]
    · rw [if_neg he]
      simp only [cM, List.getElem?_map, List.getElem?_range hi, Option.map_some]
      rw [sB h, if_neg (fun hh => he (by omega))]
      simp
  · rw [List.getElem?_eq_none (by rw [ko]; omega), List.getElem?_eq_none (by rw [List.length_set, ko]; omega)]
theorem BC {ls : List Int} {k : Nat} (h : k < ls.length) (h1 : ls[k] = 0) : cM (ls.take (k + 1)) = cM (ls.take k) := by
  unfold cM
  apply List.map_congr_left
  intro i _
  rw [sB h, if_neg (fun hh => hh.1 (by omega))]
  simp
theorem FP : cM [] = List.replicate 16 0 := by
  have : cnt [] = fun _ => 0 := by funext n; simp [cnt, Ea]
  unfold cM
  rw [this]
  rfl
def dR (ls : List Int) : List Int := ((List.range ls.length).filter (fun i => decide (0 < ls.getD i 0))).map (fun i : Nat => (i : Int))
theorem ql {ls : List Int} {k : Nat} (h : k < ls.length) : dR (ls.take (k + 1)) = dR (ls.take k) ++ (if 0 < ls[k] then [(k : Int)] else []) := by
  unfold dR
  have e1 : (ls.take (k + 1)).length = k + 1 := by simp; omega
  have e2 : (ls.take k).length = k := by simp; omega
  rw [e1, e2, List.range_succ, List.filter_append, List.map_append]
  congr 1
  · congr 1
    apply List.filter_congr
    intro i hi
    have hi := List.mem_range.1 hi
    rw [getD_take (by omega), getD_take hi]
  · have : (ls.take (k + 1)).getD k 0 = ls[k] := by rw [getD_take (by omega)]; simp [List.getD_eq_getElem?_getD, h]
    by_cases he : 0 < ls[k]
    · simp only [List.filter_cons, List.filter_nil, this, he, decide_true, decide_false, if_true, if_false, List.map_cons, List.map_nil]; try rfl
    · simp only [List.filter_cons, List.filter_nil, this, he, decide_true, decide_false, if_true, if_false, List.map_cons, List.map_nil]; try rfl
theorem u0 (ls : List Int) : (dR ls).length ≤ ls.length := by
  unfold dR
  have := List.length_filter_le (fun i => decide (0 < ls.getD i 0)) (List.range ls.length)
  simpa using this
def left (C : List Int) : Nat → Int
  | 0 => 1
  | n + 1 => 2 * left C n - C.getD (n + 1) 0
def gM (C : List Int) (all : Int) : Bool := (List.range 15).all (fun n => decide (0 ≤ left C (n + 1))) && (decide (left C 15 = 0) || decide (all = 0) || (decide (all = 1) && decide (C.getD 1 0 = 1)))
theorem yE {C : List Int} (hC : ∀ i, 0 ≤ C.getD i 0) : ∀ n, left C n ≤ 2 ^ n
  | 0 => by simp [left]
  | n + 1 => by
    have h := yE hC n
    have := hC (n + 1)
    simp only [left]
    rw [Int.pow_succ]
    omega
theorem AS {C : List Int} (hC : ∀ i, 0 ≤ C.getD i 0) {n : Nat} (hn : n ≤ 15) : left C n ≤ 32768 := by
  refine Int.le_trans (yE hC n) ?_
  have : (2 : Nat) ^ n ≤ 2 ^ 15 := Nat.pow_le_pow_right (by decide) hn
  have e : ((2 : Int) ^ n) = ((2 ^ n : Nat) : Int) := by simp
  rw [e]
  omega
theorem yk {C : List Int} {all : Int} {n : Nat} (h1 : 1 ≤ n) (h2 : n ≤ 15) (h : left C n < 0) : gM C all = false := by
  unfold gM
  have : (List.range 15).all (fun n => decide (0 ≤ left C (n + 1))) = false := by
    rw [List.all_eq_false]
    exact ⟨n - 1, List.mem_range.2 (by omega), by rw [show n - 1 + 1 = n by omega]; simpa using h⟩
  rw [this]; rfl
theorem CE {C : List Int} {all : Int} (h : ∀ n, 1 ≤ n → n ≤ 15 → 0 ≤ left C n) : gM C all = (decide (left C 15 = 0) || decide (all = 0) || (decide (all = 1) && decide (C.getD 1 0 = 1))) := by
  unfold gM
  have : (List.range 15).all (fun n => decide (0 ≤ left C (n + 1))) = true := by
    rw [List.all_eq_true]
    intro x hx
    have := List.mem_range.1 hx
    simpa using h (x + 1) (by omega) (by omega)
  rw [this]; rfl
theorem Iu {C : List Int} {k : Nat} (hno : ∀ m, 1 ≤ m → m ≤ k → 0 ≤ left C m) : 0 ≤ left C k := by
  rcases Nat.eq_zero_or_pos k with e | e
  · subst e; simp [left]
  · exact hno k e (Nat.le_refl _)
theorem qF {C : List Int} {k : Nat} : 2 * left C k - C.getD ((k : Int) + 1).toNat 0 = left C (k + 1) := by
  rw [show ((k : Int) + 1).toNat = k + 1 by omega]; rfl
theorem Cq {C : List Int} {k : Nat} (hno : ∀ m, 1 ≤ m → m ≤ k → 0 ≤ left C m) (h : ¬ 2 * left C k - C.getD ((k : Int) + 1).toNat 0 < 0) : ∀ m, 1 ≤ m → m ≤ k + 1 → 0 ≤ left C m := by
  intro m h1 h2
  rcases Nat.lt_or_ge m (k + 1) with h3 | h3
  · exact hno m h1 (by omega)
  · obtain rfl : m = k + 1 := by omega
    rw [qF] at h
    omega
theorem nO {C : List Int} {all : Int} {k : Nat} (hk : k ≤ 15) (h8 : ¬ ((k : Int) + 1 ≤ 15)) (hno : ∀ m, 1 ≤ m → m ≤ k → 0 ≤ left C m) : gM C all = (decide (left C k = 0) || decide (all = 0) || (decide (all = 1) && decide (C.getD (Int.toNat 1) 0 = 1))) := by
  obtain rfl : k = 15 := by omega
  exact CE hno
def okB (ls : List Int) : Bool := ls.all (fun x => decide (0 ≤ x ∧ x ≤ 15))
def cg (ls : List Int) : Int := if 320 < ls.length then 1 else if okB ls = true then (if gM (cM ls) ((dR ls).length : Int) = true then 0 else 4) else 1
def dj (ls : List Int) : Int := ls.foldl (fun a x => if a < x then x else a) 0
theorem k9 {ls : List Int} {n : Nat} {x : Int} : x ∈ cls ls n ↔ 0 ≤ x ∧ x.toNat < ls.length ∧ ls.getD x.toNat 0 = (n : Int) := by
  unfold cls
  simp only [List.mem_map, List.mem_filter, List.mem_range, decide_eq_true_eq]
  constructor
  · rintro ⟨i, ⟨h1, h2⟩, rfl⟩
    exact ⟨by omega, by simpa using h1, by simpa using h2⟩
  · rintro ⟨h1, h2, h3⟩
    exact ⟨x.toNat, ⟨h2, h3⟩, by omega⟩
theorem sr {ls : List Int} {x : Int} : ∀ {n : Nat}, x ∈ gj ls n ↔ ∃ m, 1 ≤ m ∧ m ≤ n ∧ x ∈ cls ls m
  | 0 => by simp [gj]; omega
  | n + 1 => by
    simp only [gj, List.mem_append, sr (n := n)]
    constructor
    · rintro (⟨m, h1, h2, h3⟩ | h)
      · exact ⟨m, h1, by omega, h3⟩
      · exact ⟨n + 1, by omega, Nat.le_refl _, h⟩
    · rintro ⟨m, h1, h2, h3⟩
      by_cases e : m = n + 1
      · subst e; exact .inr h3
      · exact .inl ⟨m, h1, by omega, h3⟩
theorem uX {ls : List Int} (hv : Vl ls) {x : Int} : x ∈ ord ls ↔ 0 ≤ x ∧ x.toNat < ls.length ∧ 0 < ls.getD x.toNat 0 := by
  unfold ord
  rw [sr]
  constructor
  · rintro ⟨m, h1, h2, h3⟩
    obtain ⟨a, b, c⟩ := k9.1 h3
    exact ⟨a, b, by omega⟩
  · rintro ⟨h1, h2, h3⟩
    have h4 := hv.2 (ls.getD x.toNat 0) (by simp [List.getD_eq_getElem?_getD, h2])
    refine ⟨(ls.getD x.toNat 0).toNat, by omega, by omega, k9.2 ⟨h1, h2, by omega⟩⟩
theorem m9 (ls : List Int) {n : Nat} (h : 1 ≤ n) : off ls (n + 1) = off ls n + (cls ls n).length := by
  obtain ⟨m, rfl⟩ : ∃ m, n = m + 1 := ⟨n - 1, by omega⟩
  simp [off, gj]
theorem rf (ls : List Int) (n : Nat) : (off ls (n + 1) : Int) = off ls n + cnt ls n := by
  rcases Nat.eq_zero_or_pos n with h | h
  · subst h; simp [off, gj, cnt]
  · rw [m9 ls h]
    unfold cnt
    rw [if_neg (by omega)]
    omega
theorem Er (ls : List Int) {m n : Nat} (h : m ≤ n) : ∃ t, gj ls n = gj ls m ++ t := by
  induction n with
  | zero =>
    obtain rfl : m = 0 := by omega
    exact ⟨[], by simp⟩
  | succ n ih =>
    by_cases e : m = n + 1
    · subst e; exact ⟨[], by simp⟩
    · obtain ⟨t, ht⟩ := ih (by omega)
      exact ⟨t ++ cls ls (n + 1), by simp [gj, ht]⟩
theorem k8 (ls : List Int) {m n : Nat} (h : m ≤ n) : off ls m ≤ off ls n := by
  induction n with
  | zero =>
    obtain rfl : m = 0 := by omega
    exact Nat.le_refl _
  | succ n ih =>
    by_cases e : m = n + 1
    · subst e; exact Nat.le_refl _
    · have := ih (by omega)
      have h2 := rf ls n
      have h3 := ja ls n
      omega
theorem um (ls : List Int) : (ord ls).length = off ls 16 := rfl
theorem Jo {ls : List Int} {n r : Nat} (h1 : 1 ≤ n) (h2 : n ≤ 15) (h : r < (cls ls n).length) : (ord ls).getD (off ls n + r) 0 = (cls ls n).getD r 0 := by
  obtain ⟨t, ht⟩ := Er ls (show n ≤ 15 from h2)
  obtain ⟨m, rfl⟩ : ∃ m, n = m + 1 := ⟨n - 1, by omega⟩
  have e : ord ls = gj ls m ++ cls ls (m + 1) ++ t := by unfold ord; rw [ht]; rfl
  rw [e, List.append_assoc]
  simp only [List.getD_eq_getElem?_getD, off]
  rw [List.getElem?_append_right (by omega), List.getElem?_append_left (by omega)]
  congr 2
  omega
theorem rk {ls : List Int} {p : Nat} (h : p < (ord ls).length) : ∃ n r, 1 ≤ n ∧ n ≤ 15 ∧ r < (cls ls n).length ∧ p = off ls n + r := by
  have key : ∀ n, p < off ls (n + 1) → ∃ m r, 1 ≤ m ∧ m ≤ n ∧ r < (cls ls m).length ∧ p = off ls m + r := by
    intro n
    induction n with
    | zero => intro h; simp [off, gj] at h
    | succ n ih =>
      intro h
      by_cases h2 : p < off ls (n + 1)
      · obtain ⟨m, r, a, b, c, d⟩ := ih h2
        exact ⟨m, r, a, by omega, c, d⟩
      · have := m9 ls (n := n + 1) (by omega)
        exact ⟨n + 1, p - off ls (n + 1), by omega, Nat.le_refl _, by omega, by omega⟩
  exact key 15 h
theorem Em {ls : List Int} {s n : Nat} (h : s < ls.length) (hn : ls.getD s 0 = (n : Int)) : ∃ t, cls ls n = cls (ls.take s) n ++ ((s : Int) :: t) := by
  have e : ls = ls.take (s + 1) ++ ls.drop (s + 1) := (List.take_append_drop _ _).symm
  have key : ∀ k, s + 1 + k ≤ ls.length → ∃ t, cls (ls.take (s + 1 + k)) n = cls (ls.take s) n ++ ((s : Int) :: t) := by
    intro k
    induction k with
    | zero =>
      intro _
      refine ⟨[], ?_⟩
      rw [Nat.add_zero, sC h, if_pos (by rw [← hn]; simp [List.getD_eq_getElem?_getD, h])]
    | succ k ih =>
      intro hk
      obtain ⟨t, ht⟩ := ih (by omega)
      refine ⟨t ++ (if ls[s + 1 + k] = (n : Int) then [((s + 1 + k : Nat) : Int)] else []), ?_⟩
      rw [show s + 1 + (k + 1) = (s + 1 + k) + 1 by omega, sC (show s + 1 + k < ls.length by omega), ht]
      simp
  obtain ⟨t, ht⟩ := key (ls.length - (s + 1)) (by omega)
  rw [show s + 1 + (ls.length - (s + 1)) = ls.length by omega, List.take_length] at ht
  exact ⟨t, ht⟩
theorem vg (ls : List Int) (n : Nat) : (cls ls n).Nodup := by
  unfold cls
  have h : ((List.range ls.length).filter (fun i => decide (ls.getD i 0 = (n : Int)))).Nodup := List.Pairwise.filter _ List.nodup_range
  rw [List.Nodup, List.pairwise_map]
  exact List.Pairwise.imp (fun {a b} hab he => hab (Int.ofNat.inj he)) h
theorem rb {ls : List Int} {n r : Nat} (h1 : 1 ≤ n) (h2 : n ≤ 15) (h : r < (cls ls n).length) :
    ∃ s : Nat, (ord ls).getD (off ls n + r) 0 = (s : Int) ∧ s < ls.length ∧ ls.getD s 0 = (n : Int) ∧ lenOf ls s = n ∧ fV ls s = base ls n + r := by
  have hr0 : (cls ls n)[r]? = some ((cls ls n).getD r 0) := by simp [List.getD_eq_getElem?_getD, h]
  have hm : (cls ls n).getD r 0 ∈ cls ls n := List.mem_of_getElem? hr0
  obtain ⟨a, b, c⟩ := k9.1 hm
  obtain ⟨s, hs⟩ : ∃ s : Nat, (cls ls n).getD r 0 = (s : Int) := ⟨((cls ls n).getD r 0).toNat, by omega⟩
  rw [hs] at hr0 b c
  simp only [Int.toNat_natCast] at b c
  have hl : lenOf ls s = n := by unfold lenOf; rw [c]; omega
  refine ⟨s, by rw [Jo h1 h2 h, hs], b, c, hl, ?_⟩
  unfold fV
  rw [hl]
  congr 1
  obtain ⟨t, ht⟩ := Em b c
  have hidx : (cls ls n)[(cls (ls.take s) n).length]? = some (s : Int) := by
    rw [ht, List.getElem?_append_right (Nat.le_refl _), Nat.sub_self]
    rfl
  have := (List.getElem?_inj (List.getElem?_eq_some_iff.1 hr0).1 (vg ls n)).1 (hr0.trans hidx.symm)
  omega
theorem xe {ls : List Int} {m n : Nat} (h : m ≤ n) (hz : ∀ k, m < k → k < n → cnt ls k = 0) (hmn : m < n) : base ls n = (base ls m + cnt ls m) * 2 ^ (n - m) := by
  induction n with
  | zero => omega
  | succ n ih =>
    by_cases e : m = n
    · subst e
      rw [show m + 1 - m = 1 by omega]
      simp only [base]
      omega
    · have := ih (by omega) (fun k k1 k2 => hz k k1 (by omega)) (by omega)
      simp only [base]
      rw [this, hz n (by omega) (by omega), show n + 1 - m = (n - m) + 1 by omega, Int.pow_succ]
      rw [Int.add_zero, Int.mul_comm 2, Int.mul_assoc]
theorem DG {ls : List Int} {p : Nat} (hp : p + 1 < (ord ls).length) : ∃ s t : Nat, (ord ls).getD p 0 = (s : Int) ∧ (ord ls).getD (p + 1) 0 = (t : Int) ∧ s < ls.length ∧ t < ls.length ∧ 1 ≤ lenOf ls s ∧ lenOf ls s ≤ lenOf ls t ∧ lenOf ls t ≤ 15 ∧ ls.getD s 0 = (lenOf ls s : Int) ∧ ls.getD t 0 = (lenOf ls t : Int) ∧ fV ls t = (fV ls s + 1) * 2 ^ (lenOf ls t - lenOf ls s) := by
  obtain ⟨m, r, m1, m2, hr, e1⟩ := rk (show p < (ord ls).length by omega)
  obtain ⟨n, q, n1, n2, hq, e2⟩ := rk hp
  obtain ⟨s, s1, s2, s3, s4, s5⟩ := rb m1 m2 hr
  obtain ⟨t, t1, t2, t3, t4, t5⟩ := rb n1 n2 hq
  have hmn : m ≤ n := by
    rcases Nat.lt_or_ge n m with h | h
    · exfalso
      have := k8 ls (show n + 1 ≤ m from h)
      have := m9 ls n1
      omega
    · exact h
  refine ⟨s, t, by rw [e1]; exact s1, by rw [e2]; exact t1, s2, t2, by omega, by omega, by omega, by rw [s4]; exact s3, by rw [t4]; exact t3, ?_⟩
  rw [s4, t4, s5, t5]
  by_cases e : m = n
  · subst e
    rw [Nat.sub_self]
    simp
    omega
  · have h3 := k8 ls (show m + 1 ≤ n by omega)
    have h4 := m9 ls m1
    have hq0 : q = 0 := by omega
    have hrl : r + 1 = (cls ls m).length := by omega
    subst hq0
    have hz : ∀ k, m < k → k < n → cnt ls k = 0 := by
      intro k k1 k2
      have h5 := k8 ls (show m + 1 ≤ k by omega)
      have h6 := k8 ls (show k + 1 ≤ n by omega)
      have h7 := rf ls k
      have h8 := ja ls k
      omega
    have hc : cnt ls m = (r : Int) + 1 := by unfold cnt; rw [if_neg (by omega)]; omega
    rw [xe hmn hz (by omega), hc]
    simp [Int.add_assoc]
theorem Ao {ls : List Int} (hp : 0 < (ord ls).length) : ∃ t : Nat, (ord ls).getD 0 0 = (t : Int) ∧ t < ls.length ∧ 1 ≤ lenOf ls t ∧ lenOf ls t ≤ 15 ∧ ls.getD t 0 = (lenOf ls t : Int) ∧ fV ls t = 0 := by
  obtain ⟨n, q, n1, n2, hq, e2⟩ := rk hp
  obtain ⟨t, t1, t2, t3, t4, t5⟩ := rb n1 n2 hq
  refine ⟨t, by rw [e2]; exact t1, t2, by omega, by omega, by rw [t4]; exact t3, ?_⟩
  have hz : ∀ k, 0 < k → k < n → cnt ls k = 0 := by
    intro k k1 k2
    have h6 := k8 ls (show k + 1 ≤ n by omega)
    have h7 := rf ls k
    have h8 := ja ls k
    omega
  rw [t5, xe (Nat.zero_le n) hz (by omega)]
  simp [base, cnt]
  omega
end Go.af
namespace Go.af
open Go.dv
abbrev key (ls : List Int) (x : Int) : Int := ls.getD x.toNat 0
theorem Fx (l : List Nat) (q : Nat → Bool) (p : Int → Bool) : ((l.filter q).map (fun i : Nat => (i : Int))).filter p = (l.filter (fun i => q i && p (i : Int))).map (fun i : Nat => (i : Int)) := by
  rw [List.filter_map, List.filter_filter]
  congr 2
  funext i
  simp [Bool.and_comm]
theorem Fa (ls : List Int) (m : Nat) (c : Int) : (cls ls m).filter (fun x => decide (key ls x = c)) = if (m : Int) = c then cls ls m else [] := by
  by_cases h : (m : Int) = c
  · rw [if_pos h, List.filter_eq_self]
    intro x hx
    have := (k9.1 hx).2.2
    simpa [h] using this.trans h
  · rw [if_neg h, List.filter_eq_nil_iff]
    intro x hx
    have := (k9.1 hx).2.2
    simp only [decide_eq_true_eq]
    intro e
    exact h (this.symm.trans e)
theorem xl (ls : List Int) (c : Int) : ∀ n : Nat, (gj ls n).filter (fun x => decide (key ls x = c)) = if 1 ≤ c ∧ c ≤ (n : Int) then cls ls c.toNat else []
  | 0 => by rw [if_neg (by omega)]; rfl
  | n + 1 => by
    simp only [gj]
    rw [List.filter_append, xl ls c n, Fa]
    by_cases h : ((n + 1 : Nat) : Int) = c
    · rw [if_neg (by omega), if_pos h, if_pos (by omega), List.nil_append, ← h]
      rfl
    · rw [if_neg h, List.append_nil]
      by_cases h2 : 1 ≤ c ∧ c ≤ (n : Int)
      · rw [if_pos h2, if_pos (by omega)]
      · rw [if_neg h2, if_neg (by omega)]
theorem CO {ls : List Int} (hv : ∀ x ∈ ls, 0 ≤ x ∧ x ≤ 15) (c : Int) : (dR ls).filter (fun x => decide (key ls x = c)) = if 1 ≤ c ∧ c ≤ 15 then cls ls c.toNat else [] := by
  unfold dR
  rw [Fx]
  by_cases h : 1 ≤ c ∧ c ≤ 15
  · rw [if_pos h]
    unfold cls
    congr 1
    apply List.filter_congr
    intro i hi
    simp only [key, Int.toNat_natCast]
    by_cases e : ls.getD i 0 = c
    · have e2 : ls.getD i 0 = ((c.toNat : Nat) : Int) := by omega
      have e3 : 0 < ls.getD i 0 := by omega
      simp only [e, e2, decide_true, Bool.and_true, decide_eq_true_eq]
      simp; omega
    · have e2 : ¬ ls.getD i 0 = ((c.toNat : Nat) : Int) := by omega
      rw [decide_eq_false e, decide_eq_false e2, Bool.and_false]
  · rw [if_neg h]
    simp only [List.map_eq_nil_iff]
    rw [List.filter_eq_nil_iff]
    intro i hi hp
    have hi := List.mem_range.1 hi
    simp only [key, Int.toNat_natCast, Bool.and_eq_true, decide_eq_true_eq] at hp
    have := hv (ls.getD i 0) (by simp [List.getD_eq_getElem?_getD, hi])
    omega
theorem Mf (ls : List Int) : Sd (key ls) 0 (ord ls) 0 (ord ls).length := by
  have : ∀ n, Sd (key ls) 0 (gj ls n) 0 (gj ls n).length ∧ ∀ x ∈ gj ls n, key ls x ≤ (n : Int) := by
    intro n
    induction n with
    | zero => exact ⟨Sd.small (by simp [gj]), fun x hx => by simp [gj] at hx⟩
    | succ n ih =>
      have hle : ∀ x ∈ gj ls n, key ls x ≤ (n : Int) := ih.2
      have hcl : ∀ x ∈ cls ls (n + 1), key ls x = ((n + 1 : Nat) : Int) := fun x hx => (k9.1 hx).2.2
      refine ⟨?_, ?_⟩
      · simp only [gj, List.length_append]
        refine Sd.join (m := (gj ls n).length) ?_ ?_ ?_
        · exact ih.1.congr (fun i _ h => cI h)
        · intro i j i1 i2 i3
          rw [ea i1, ea (by omega), hcl _ (jk (by omega)), hcl _ (jk (by omega))]
          exact Int.le_refl _
        · intro i j i1 i2 i3 i4
          rw [cI i2, ea i3, hcl _ (jk (by omega))]
          have := hle _ (jk (d := 0) i2)
          omega
      · intro x hx
        simp only [gj, List.mem_append] at hx
        rcases hx with hx | hx
        · have := hle x hx; omega
        · have := hcl x hx; omega
  exact (this 15).1
theorem EL {ls l2 : List Int} (hv : ∀ x ∈ ls, 0 ≤ x ∧ x ≤ 15) (hR : Rl (key ls) 0 (dR ls) l2 0 (dR ls).length) (hS : Sd (key ls) 0 l2 0 (dR ls).length) : l2 = ord ls := by
  refine unique (d := 0) (by rw [hR.len]; exact hS) (Mf ls) (fun c => ?_)
  rw [hR.same c, CO hv]
  unfold ord
  rw [xl]
  rfl
theorem xR {ls : List Int} {x : Int} : x ∈ dR ls ↔ 0 ≤ x ∧ x.toNat < ls.length ∧ 0 < ls.getD x.toNat 0 := by
  unfold dR
  simp only [List.mem_map, List.mem_filter, List.mem_range, decide_eq_true_eq]
  constructor
  · rintro ⟨i, ⟨h1, h2⟩, rfl⟩
    exact ⟨by omega, by simpa using h1, by simpa using h2⟩
  · rintro ⟨h1, h2, h3⟩
    exact ⟨x.toNat, ⟨h2, h3⟩, by omega⟩
theorem Bc {l : List Nat} (h : l.Nodup) : (l.map (fun i : Nat => (i : Int))).Nodup := by
  rw [List.Nodup, List.pairwise_map]
  exact List.Pairwise.imp (fun {a b} hab he => hab (Int.ofNat.inj he)) h
theorem AI (ls : List Int) : (dR ls).Nodup := Bc (List.Pairwise.filter _ List.nodup_range)
theorem tx (ls : List Int) : ∀ n, (gj ls n).Nodup
  | 0 => by simp [gj]
  | n + 1 => by
    simp only [gj]
    rw [List.nodup_append]
    refine ⟨tx ls n, vg ls _, ?_⟩
    intro a ha b hb e
    subst e
    obtain ⟨m, m1, m2, m3⟩ := sr.1 ha
    have h1 := (k9.1 m3).2.2
    have h2 := (k9.1 hb).2.2
    omega
theorem wJ {ls : List Int} (hv : Vl ls) : (dR ls).length = (ord ls).length :=
  ((List.perm_ext_iff_of_nodup (AI ls) (tx ls 15)).2 (fun x => by rw [xR]; exact (uX hv).symm)).length_eq
def wj (ls : List Int) : Nat → Int
  | 0 => 0
  | k + 1 => fV ls ((ord ls).getD k 0).toNat + 1
def nC (ls : List Int) : Nat → Int
  | 0 => 0
  | k + 1 => (lenOf ls ((ord ls).getD k 0).toNat : Int)
theorem q9 (ls : List Int) : ∀ n, 0 ≤ base ls n
  | 0 => by simp [base]
  | n + 1 => by
    have := q9 ls n
    have := ja ls n
    simp only [base]
    omega
theorem pM {ls : List Int} : ∀ n : Nat, n ≤ 15 → left (cM ls) n = 2 ^ n - (base ls n + cnt ls n)
  | 0, _ => by simp [left, base, cnt]
  | n + 1, h => by
    simp only [left, base]
    rw [pM n (by omega), oT (by omega), Int.pow_succ]
    omega
theorem tN {C : List Int} {all : Int} (h : gM C all = true) {n : Nat} (hn : n ≤ 15) : 0 ≤ left C n := by
  rcases Nat.eq_zero_or_pos n with e | e
  · subst e; simp [left]
  · by_cases hl : left C n < 0
    · rw [yk e hn hl] at h
      cases h
    · omega
theorem H4 {ls : List Int} {all : Int} (hw : gM (cM ls) all = true) {n r : Nat} (h1 : 1 ≤ n) (h2 : n ≤ 15) (h : r < (cls ls n).length) : base ls n + (r : Int) < 2 ^ n := by
  have h3 := tN hw h2
  rw [pM n h2] at h3
  have : cnt ls n = ((cls ls n).length : Int) := by unfold cnt; rw [if_neg (by omega)]
  omega
theorem qv {n : Nat} (h : n ≤ 15) : (2 : Int) ^ n ≤ 32768 := by
  have : (2 : Nat) ^ n ≤ 2 ^ 15 := Nat.pow_le_pow_right (by decide) h
  have e : ((2 : Int) ^ n) = ((2 ^ n : Nat) : Int) := by simp
  rw [e]
  omega
structure At (ls : List Int) (k : Nat) (s : Nat) : Prop where
  sym : (ord ls).getD k 0 = (s : Int)
  lt : s < ls.length
  one : 1 ≤ lenOf ls s
  top : lenOf ls s ≤ 15
  len : ls.getD s 0 = (lenOf ls s : Int)
  ge : nC ls k ≤ lenOf ls s
  nn : 0 ≤ nC ls k
  word : wj ls k * 2 ^ (lenOf ls s - (nC ls k).toNat) = fV ls s
  w0 : 0 ≤ fV ls s
  w1 : fV ls s < 2 ^ lenOf ls s
theorem Qb {ls : List Int} {all : Int} (hw : gM (cM ls) all = true) {k : Nat} (hk : k < (ord ls).length) : ∃ s, At ls k s := by
  obtain ⟨n, r, n1, n2, hr, e⟩ := rk hk
  obtain ⟨t, t1, t2, t3, t4, t5⟩ := rb n1 n2 hr
  have hlt := H4 hw n1 n2 hr
  have hb := q9 ls n
  cases k with
  | zero =>
    obtain ⟨s, s1, s2, s3, s4, s5, s6⟩ := Ao hk
    have hst : s = t := by rw [e] at s1; rw [t1] at s1; omega
    subst hst
    refine ⟨s, s1, s2, s3, s4, s5, by simp [nC], by simp [nC], by simp [wj, s6], by omega, by rw [t4, t5]; exact hlt⟩
  | succ k =>
    obtain ⟨s, u, s1, u1, s2, u2, s3, s4, s5, s6, u6, u7⟩ := DG hk
    have hut : u = t := by rw [e] at u1; rw [t1] at u1; omega
    subst hut
    refine ⟨u, u1, u2, by omega, s5, u6, by simp only [nC]; rw [s1]; simp; exact s4, by simp only [nC]; omega, ?_, by rw [t5]; omega, by rw [t4, t5]; exact hlt⟩
    simp only [wj, nC]
    rw [s1, u7]
    simp
def wd (ls : List Int) (s : Nat) : Int × Int := if 0 < lenOf ls s then (fV ls s, (lenOf ls s : Int)) else (0, 0)
def iV (ls : List Int) (k : Nat) : List (Int × Int) := (List.range ls.length).map (fun s : Nat => if (s : Int) ∈ (ord ls).take k then wd ls s else (0, 0))
def words (ls : List Int) : List (Int × Int) := (List.range ls.length).map (wd ls)
theorem oQ (ls : List Int) (k : Nat) : (iV ls k).length = ls.length := by simp [iV]
theorem yx (ls : List Int) : iV ls 0 = List.replicate ls.length (0, 0) := by
  simp [iV, List.map_const']
theorem A6 {ls : List Int} (hv : Vl ls) {k : Nat} (hk : (ord ls).length ≤ k) : iV ls k = words ls := by
  unfold iV words
  rw [List.take_of_length_le hk]
  apply List.map_congr_left
  intro s hs
  have hs := List.mem_range.1 hs
  by_cases h : (s : Int) ∈ ord ls
  · rw [if_pos h]
  · rw [if_neg h]
    unfold wd
    rw [if_neg]
    intro h2
    exact h ((uX hv).2 ⟨by omega, by simpa using hs, by simpa [lenOf] using h2⟩)
theorem yA {ls : List Int} {k s : Nat} (hk : k < (ord ls).length) (ha : At ls k s) : iV ls (k + 1) = (iV ls k).set s (fV ls s, (lenOf ls s : Int)) := by
  have e1 : (ord ls).take (k + 1) = (ord ls).take k ++ [(s : Int)] := by
    rw [List.take_succ_eq_append_getElem hk]
    congr 2
    have := ha.sym
    simpa [List.getD_eq_getElem?_getD, hk] using this
  apply List.ext_getElem?
  intro i
  rw [List.getElem?_set]
  by_cases hi : i < ls.length
  · by_cases e : s = i
    · subst e
      rw [if_pos rfl, if_pos (by rw [oQ]; exact hi)]
      simp only [iV, List.getElem?_map, List.getElem?_range hi, Option.map_some]
      rw [if_pos (by rw [e1]; simp)]
      unfold wd
      rw [if_pos (by have := ha.one; omega)]
    · rw [if_neg e]
      simp only [iV, List.getElem?_map, List.getElem?_range hi, Option.map_some]
      by_cases hm : (i : Int) ∈ (ord ls).take k
      · rw [if_pos hm, if_pos (by rw [e1]; exact List.mem_append_left _ hm)]
      · rw [if_neg hm, if_neg]
        rw [e1]
        intro h
        rcases List.mem_append.1 h with h | h
        · exact hm h
        · have := List.mem_singleton.1 h
          omega
  · rw [List.getElem?_eq_none (by rw [oQ]; omega)]
    have hs := ha.lt
    rw [if_neg (by omega), List.getElem?_eq_none (by rw [oQ]; omega)]
theorem vy {ls : List Int} {k : Nat} (h : k < ls.length) : dj (ls.take (k + 1)) = if dj (ls.take k) < ls[k] then ls[k] else dj (ls.take k) := by
  unfold dj
  rw [List.take_succ_eq_append_getElem h, List.foldl_append]
  rfl
theorem zf (ls : List Int) : 0 ≤ dj ls := by
  have : ∀ (l : List Int) (a : Int), 0 ≤ a → 0 ≤ l.foldl (fun a x => if a < x then x else a) a := by
    intro l
    induction l with
    | nil => intro a h; exact h
    | cons x l ih => intro a h; simp only [List.foldl_cons]; exact ih _ (by split <;> omega)
  exact this ls 0 (Int.le_refl _)
theorem I2 {ls : List Int} {k : Nat} (h : ∀ i, i < k → 0 ≤ ls.getD i 0 ∧ ls.getD i 0 ≤ 15) (hk : ls.length ≤ k) : ∀ x ∈ ls, 0 ≤ x ∧ x ≤ 15 := by
  intro x hx
  obtain ⟨i, hi⟩ := List.getElem?_of_mem hx
  have hlt := (List.getElem?_eq_some_iff.1 hi).1
  have := h i (by omega)
  simpa [List.getD_eq_getElem?_getD, hi] using this
theorem px {ls : List Int} (h : ls.length ≤ 320) : ∀ i, 0 ≤ (cM ls).getD i 0 ∧ (cM ls).getD i 0 ≤ 320 := by
  intro i
  rcases Nat.lt_or_ge i 16 with hi | hi
  · rw [oT hi]
    have := ja ls i
    have := Ns ls i
    omega
  · rw [List.getD_eq_getElem?_getD, List.getElem?_eq_none (by rw [ko]; exact hi)]
    simp
theorem HF (ls : List Int) : ∀ i, i < (dR ls).length → 0 ≤ (dR ls).getD i 0 ∧ (dR ls).getD i 0 < (ls.length : Int) := by
  intro i hi
  have := xR.1 (jk (d := 0) hi)
  omega
theorem zd {ls : List Int} {k : Nat} (hok : ∀ i, i < k → 0 ≤ ls.getD i 0 ∧ ls.getD i 0 ≤ 15) (h : 0 ≤ ls.getD k 0 ∧ ls.getD k 0 ≤ 15) : ∀ i, i < k + 1 → 0 ≤ ls.getD i 0 ∧ ls.getD i 0 ≤ 15 := by
  intro i hi
  by_cases e : i = k
  · subst e; exact h
  · exact hok i (by omega)
theorem BU {ls : List Int} {k : Nat} {x : Int} (h : k < ls.length) (hx : x = ls[k]) (h0 : x = 0) : cM (ls.take (k + 1)) = cM (ls.take k) ∧ dR (ls.take (k + 1)) = dR (ls.take k) ∧ dj (ls.take (k + 1)) = dj (ls.take k) := by
  have hz : ls[k] = 0 := by omega
  refine ⟨BC h hz, ?_, ?_⟩
  · rw [ql h, if_neg (by omega), List.append_nil]
  · rw [vy h, if_neg]
    have := zf (ls.take k)
    omega
theorem step_pos {ls : List Int} {k : Nat} {x : Int} (h : k < ls.length) (hx : x = ls[k]) (h0 : 0 < x) (h1 : x ≤ 15) : (cM (ls.take k)).set x.toNat ((cM (ls.take k)).getD x.toNat 0 + 1) = cM (ls.take (k + 1)) ∧ dR (ls.take k) ++ [(k : Int)] = dR (ls.take (k + 1)) ∧ (dR (ls.take k)).length + 1 = (dR (ls.take (k + 1))).length ∧ (if dj (ls.take k) < x then x else dj (ls.take k)) = dj (ls.take (k + 1)) := by
  subst hx
  refine ⟨(Bq h h0 h1).symm, ?_, ?_, (vy h).symm⟩
  · rw [ql h, if_pos h0]
  · rw [ql h, if_pos h0]; simp
theorem wi : dR [] = [] := rfl
theorem D5 : dj [] = 0 := rfl
theorem vx {ls : List Int} (h : 320 < ls.length) : cg ls = 1 := if_pos h
theorem pg {ls : List Int} {k : Nat} (h : ¬ 320 < ls.length) (hk : k < ls.length) (hb : ls.getD k 0 < 0 ∨ 15 < ls.getD k 0) : cg ls = 1 := by
  unfold cg
  rw [if_neg h, if_neg]
  intro ho
  unfold okB at ho
  rw [List.all_eq_true] at ho
  have := ho (ls.getD k 0) (by simp [List.getD_eq_getElem?_getD, hk])
  simp only [decide_eq_true_eq] at this
  omega
theorem Jg {ls : List Int} (h : ¬ 320 < ls.length) (hv : ∀ x ∈ ls, 0 ≤ x ∧ x ≤ 15) : cg ls = if gM (cM ls) ((dR ls).length : Int) = true then 0 else 4 := by
  unfold cg
  rw [if_neg h, if_pos]
  unfold okB
  rw [List.all_eq_true]
  intro x hx
  simpa using hv x hx
theorem lS {ls : List Int} (h : cg ls = 0) : Vl ls ∧ gM (cM ls) ((dR ls).length : Int) = true := by
  unfold cg at h
  split at h
  · omega
  · split at h
    · rename_i ho
      split at h
      · rename_i hw
        refine ⟨⟨by omega, ?_⟩, hw⟩
        unfold okB at ho
        rw [List.all_eq_true] at ho
        intro x hx
        simpa using ho x hx
      · omega
    · omega
def mA (ls : List Int) (x : Int) : Int := if 0 ≤ x ∧ x < ls.length then (wd ls x.toNat).1 else 0
def kH (ls : List Int) (x : Int) : Int := if 0 ≤ x ∧ x < ls.length then (wd ls x.toNat).2 else 0
def oA (ls : List Int) (x : Int) : Bool := decide (0 ≤ x ∧ x < ls.length ∧ (wd ls x.toNat).2 ≠ 0)
end Go.af
namespace Go.af
def P7 (ls : List Int) : List Int := (List.range 16).map (fun n => ((cls ls n).length : Int))
def sy (ls : List Int) (m i : Nat) : List Int := gj ls m ++ cls (ls.take i) (m + 1)
end Go.af
namespace Go.af
def bk (ls : List Int) (n : Nat) : Nat → Int
  | 0 => base ls n
  | k + 1 => bk ls n k + 1
structure Sy (ls : List Int) (x : Int) (L r : Nat) : Prop where
  one : 1 ≤ L
  top : L ≤ 15
  lt : r < (cls ls L).length
  get : (cls ls L).getD r 0 = x
  w : mA ls x = base ls L + (r : Int)
  n : kH ls x = (L : Int)
  b : oA ls x = true
theorem IB (ls : List Int) (m : Nat) : cnt ls (m + 1) = ((cls ls (m + 1)).length : Int) := by unfold cnt; rw [if_neg (by omega)]
theorem L3 (ls : List Int) {m k : Nat} (hm : m < 15) (hk : k < (cls ls (m + 1)).length) : off ls (m + 1) + k < (ord ls).length := by
  have h1 := m9 ls (n := m + 1) (by omega)
  have h2 := k8 ls (show m + 1 + 1 ≤ 16 by omega)
  rw [um]
  omega
theorem zO {ls : List Int} {all : Int} (hw : gM (cM ls) all = true) {n : Nat} (hn : n ≤ 15) : base ls n + cnt ls n ≤ 32768 := by
  have h3 := tN hw hn
  rw [pM n hn] at h3
  have := qv hn
  omega
end Go.af
namespace Go.Sl
theorem Fq {ls : List Int} {k s : Nat} (hs : af.At ls k s) {x : Int} (hx : x = (af.lenOf ls s : Int)) : IntKind.i64.wrap (af.wj ls k * 2 ^ (min (x - af.nC ls k).toNat IntKind.i64.bits)) = af.fV ls s := by
  have h1 := hs.top
  have h2 := hs.nn
  have h3 := hs.ge
  have h4 := hs.w0
  have h5 := hs.w1
  have h6 := af.qv hs.top
  have e : min (x - af.nC ls k).toNat IntKind.i64.bits = af.lenOf ls s - (af.nC ls k).toNat := by
    have : IntKind.i64.bits = 64 := rfl
    omega
  rw [e, hs.word]
  exact gF (by omega) (by omega)
theorem FR {ls : List Int} {all : Int} (hw : af.gM (af.cM ls) all = true) {m : Nat} (hm : m ≤ 15) : IntKind.i64.wrap ((af.base ls m + af.cnt ls m) * 2 ^ (min (1 : Int).toNat IntKind.i64.bits)) = af.base ls (m + 1) := by
  have h1 := af.zO hw hm
  have h2 := af.q9 ls m
  have h3 := af.ja ls m
  rw [show min (1 : Int).toNat IntKind.i64.bits = 1 from rfl]
  simp only [af.base]
  rw [Int.mul_comm 2, Int.pow_one]
  exact gF (by omega) (by omega)
end Go.Sl
namespace Go.af
theorem IX (ls : List Int) {m n : Nat} (h : m < n) : (base ls m + cnt ls m) * 2 ^ (n - m) ≤ base ls n := by
  induction n with
  | zero => omega
  | succ n ih =>
    have hc := ja ls n
    by_cases e : m = n
    · subst e
      rw [show m + 1 - m = 1 by omega]
      simp only [base]
      omega
    · have := ih (by omega)
      simp only [base]
      rw [show n + 1 - m = (n - m) + 1 by omega, Int.pow_succ, ← Int.mul_assoc]
      omega
structure Pf (ls : List Int) (i k : Int) : Prop where
  n1 : 1 ≤ kH ls i
  n2 : kH ls i ≤ 15
  m1 : 1 ≤ kH ls k
  m2 : kH ls k ≤ 15
  a0 : 0 ≤ mA ls i
  a1 : mA ls i < 32768
  b0 : 0 ≤ mA ls k
  b1 : mA ls k < 32768
  ge : kH ls k ≤ kH ls i → mA ls k < (mA ls i).fdiv (2 ^ (kH ls i - kH ls k).toNat)
  lt : kH ls i < kH ls k → mA ls i < (mA ls k).fdiv (2 ^ (kH ls k - kH ls i).toNat)
theorem cE {ls : List Int} {m n r s : Nat} (h : m < n) (hm : 1 ≤ m) (hr : r < (cls ls m).length) : base ls m + (r : Int) < (base ls n + (s : Int)).fdiv (2 ^ (n - m)) := by
  have h1 := IX ls h
  have hc : cnt ls m = ((cls ls m).length : Int) := by unfold cnt; rw [if_neg (by omega)]
  have hp : (0 : Int) < 2 ^ (n - m) := Int.pow_pos (by decide)
  rw [Int.fdiv_eq_ediv_of_nonneg _ (Int.le_of_lt hp)]
  have : base ls m + cnt ls m ≤ (base ls n + (s : Int)) / 2 ^ (n - m) := by
    rw [Int.le_ediv_iff_mul_le hp]
    omega
  omega
def Oy (ls : List Int) : Nat → Int
  | 0 => 0
  | k + 1 => Oy ls k + (if 0 < ls.getD k 0 then 2 ^ (15 - lenOf ls k) else 0)
end Go.af
namespace Go.aj
def au (B : List Int) : Prop := ∀ x ∈ B, 0 ≤ x ∧ x < 256
theorem au.get {B : List Int} (h : au B) (i : Nat) : 0 ≤ B.getD i 0 ∧ B.getD i 0 < 256 := by
  rcases Nat.lt_or_ge i B.length with hi | hi
  · exact h _ (by simp [List.getD_eq_getElem?_getD, hi])
  · simp [List.getD_eq_getElem?_getD, hi]
def jd (B : List Int) (i : Nat) : Int := B.getD (i / 8) 0 / 2 ^ (i % 8) % 2
theorem mV (B : List Int) (i : Nat) : 0 ≤ jd B i ∧ jd B i ≤ 1 := by unfold jd; omega
def aT (B : List Int) (at_ : Nat) : Nat → Int
  | 0 => 0
  | n + 1 => aT B at_ n + jd B (at_ + n) * 2 ^ n
theorem cH (B : List Int) (at_ : Nat) : ∀ n : Nat, 0 ≤ aT B at_ n ∧ aT B at_ n < 2 ^ n
  | 0 => by simp [aT]
  | n + 1 => by
    have h := cH B at_ n
    have h2 := mV B (at_ + n)
    have hp : (0 : Int) < 2 ^ n := Int.pow_pos (by decide)
    simp only [aT]
    rw [Int.pow_succ]
    have h3 : jd B (at_ + n) = 0 ∨ jd B (at_ + n) = 1 := by omega
    rcases h3 with e | e <;> rw [e] <;> omega
theorem rz {n : Nat} (h : n ≤ 24) : (2 : Int) ^ n ≤ 16777216 := by
  have : (2 : Nat) ^ n ≤ 2 ^ 24 := Nat.pow_le_pow_right (by decide) h
  have e : ((2 : Int) ^ n) = ((2 ^ n : Nat) : Int) := by simp
  rw [e]
  omega
theorem eF (k : Nat) (a : Nat) : (BitVec.ofInt k (a : Int)).toNat = a % 2 ^ k := by
  rw [BitVec.toNat_ofInt]
  have : ((a : Int) % ((2 ^ k : Nat) : Int)) = ((a % 2 ^ k : Nat) : Int) := by simp
  omega
theorem qa {a b : Nat} (ha : a < 2 ^ 62) (hb : b < 2 ^ 62) : IntKind.i64.wrap ((BitVec.ofInt IntKind.i64.bits (a : Int) ||| BitVec.ofInt IntKind.i64.bits (b : Int)).toNat : Int) = ((a ||| b : Nat) : Int) := by
  have e : IntKind.i64.bits = 64 := rfl
  rw [e, BitVec.toNat_or, eF, eF, Nat.mod_eq_of_lt (by omega), Nat.mod_eq_of_lt (by omega)]
  have := Nat.or_lt_two_pow ha hb
  exact Sl.gF (by omega) (by omega)
theorem NY {x b : Int} {n : Nat} (h0 : 0 ≤ x) (h1 : x < 2 ^ n) (hb : 0 ≤ b ∧ b ≤ 1) (hn : n ≤ 24) : IntKind.i64.wrap ((BitVec.ofInt IntKind.i64.bits x ||| BitVec.ofInt IntKind.i64.bits (b * 2 ^ n)).toNat : Int) = x + b * 2 ^ n := by
  obtain ⟨a, rfl⟩ : ∃ a : Nat, x = (a : Int) := ⟨x.toNat, by omega⟩
  obtain ⟨c, rfl⟩ : ∃ c : Nat, b = (c : Int) := ⟨b.toNat, by omega⟩
  have hp := rz hn
  have e1 : (c : Int) * 2 ^ n = ((2 ^ n * c : Nat) : Int) := by rw [Nat.mul_comm]; simp
  have ha : a < 2 ^ n := by
    have : ((a : Nat) : Int) < ((2 ^ n : Nat) : Int) := by simpa using h1
    omega
  have hpn : 2 ^ n ≤ 16777216 := by
    have : ((2 ^ n : Nat) : Int) ≤ 16777216 := by simpa using hp
    omega
  have hc : 2 ^ n * c ≤ 16777216 := by
    have : c = 0 ∨ c = 1 := by omega
    rcases this with rfl | rfl <;> omega
  rw [e1, qa (by omega) (by omega), Nat.or_comm, ← Nat.two_pow_add_eq_or_of_lt ha]
  omega
theorem CL {x b : Int} (h0 : 0 ≤ x) (h1 : x < 2 ^ 40) (hb : 0 ≤ b ∧ b ≤ 1) : IntKind.i64.wrap ((BitVec.ofInt IntKind.i64.bits (2 * x) ||| BitVec.ofInt IntKind.i64.bits b).toNat : Int) = 2 * x + b := by
  obtain ⟨a, rfl⟩ : ∃ a : Nat, x = (a : Int) := ⟨x.toNat, by omega⟩
  obtain ⟨c, rfl⟩ : ∃ c : Nat, b = (c : Int) := ⟨b.toNat, by omega⟩
  have e1 : 2 * (a : Int) = ((2 ^ 1 * a : Nat) : Int) := by omega
  rw [e1, qa (by omega) (by omega), ← Nat.two_pow_add_eq_or_of_lt (by omega)]
  omega
theorem ya {x : Int} (h0 : 0 ≤ x) (h1 : x < 256) : IntKind.u8.wrap ((BitVec.ofInt IntKind.u8.bits x &&& BitVec.ofInt IntKind.u8.bits 1).toNat : Int) = x % 2 := by
  obtain ⟨a, rfl⟩ : ∃ a : Nat, x = (a : Int) := ⟨x.toNat, by omega⟩
  have e : IntKind.u8.bits = 8 := rfl
  have e1 : BitVec.ofInt 8 1 = BitVec.ofInt 8 ((1 : Nat) : Int) := rfl
  rw [e, e1, BitVec.toNat_and, eF, eF, Nat.mod_eq_of_lt (by omega)]
  have : a &&& (1 % 2 ^ 8) = a % 2 := Nat.and_one_is_mod a
  rw [this]
  have e2 : IntKind.u8.wrap (((a % 2 : Nat)) : Int) = ((a % 2 : Nat) : Int) % 256 := by simp [IntKind.wrap, IntKind.bits, IntKind.signed]
  rw [e2]
  omega
theorem Lx {x : Int} {k : Nat} (h0 : 0 ≤ x) (hk : k < 8) {d : Int} (hd : d = (k : Int)) : x.fdiv (2 ^ (min d.toNat IntKind.u8.bits)) = x / 2 ^ k := by
  have e : min d.toNat IntKind.u8.bits = k := by
    have : IntKind.u8.bits = 8 := rfl
    omega
  rw [e, Int.fdiv_eq_ediv_of_nonneg _ (Int.le_of_lt (Int.pow_pos (by decide)))]
theorem NM {b : Int} {n : Nat} (hb : 0 ≤ b ∧ b ≤ 1) (hn : n ≤ 24) {d : Int} (hd : d = (n : Int)) : IntKind.i64.wrap (b * 2 ^ (min d.toNat IntKind.i64.bits)) = b * 2 ^ n := by
  have e : min d.toNat IntKind.i64.bits = n := by
    have : IntKind.i64.bits = 64 := rfl
    omega
  rw [e]
  have hp := rz hn
  have h0 : (0 : Int) < 2 ^ n := Int.pow_pos (by decide)
  have h3 : b = 0 ∨ b = 1 := by omega
  rcases h3 with e | e <;> rw [e] <;> exact Sl.gF (by omega) (by omega)
theorem FG {x : Int} (h0 : 0 ≤ x) (h1 : x < 2 ^ 40) : IntKind.i64.wrap (x * 2 ^ (min (1 : Int).toNat IntKind.i64.bits)) = 2 * x := by
  rw [show min (1 : Int).toNat IntKind.i64.bits = 1 from rfl, Int.pow_one]
  rw [Sl.gF (by omega) (by omega)]
  omega
theorem yc {x : Int} (h0 : 0 ≤ x) (h1 : x < 256) (k : Nat) : 0 ≤ x / 2 ^ k ∧ x / 2 ^ k < 256 := by
  have hp : (0 : Int) < 2 ^ k := Int.pow_pos (by decide)
  have h2 := Int.ediv_nonneg h0 (Int.le_of_lt hp)
  have h3 := Int.ediv_le_self (2 ^ k) h0
  omega
end Go.aj
namespace Go.Sl
theorem kc {n : Int} (h1 : 0 ≤ n) (h2 : n < 256) : IntKind.u8.wrap n = n := by
  have e : IntKind.u8.wrap n = n % 256 := by simp [IntKind.wrap, IntKind.bits, IntKind.signed]
  rw [e]; omega
end Go.Sl
namespace Go.aj
def acc (B : List Int) (at_ : Nat) : Nat → Int
  | 0 => 0
  | n + 1 => 2 * acc B at_ n + jd B (at_ + n)
theorem pR (B : List Int) (at_ : Nat) : ∀ n : Nat, 0 ≤ acc B at_ n ∧ acc B at_ n < 2 ^ n
  | 0 => by simp [acc]
  | n + 1 => by
    have h := pR B at_ n
    have h2 := mV B (at_ + n)
    simp only [acc]
    rw [Int.pow_succ]
    omega
theorem wG (B : List Int) (a : Nat) : aT B a 1 = jd B a := by simp [aT]
end Go.aj
namespace Go.af
open Go.aj
inductive TR where
  | vw (n : Nat) (s : Int)
  | short (n : Nat)
  | none_ (n : Nat)
def mE (ls B : List Int) (at_ : Nat) : Nat → Nat → TR
  | 0, n => .none_ n
  | r + 1, n => if at_ + n < 8 * B.length then (if acc B at_ (n + 1) - base ls (n + 1) < cnt ls (n + 1) then .vw (n + 1) ((ord ls).getD (off ls (n + 1) + (acc B at_ (n + 1) - base ls (n + 1)).toNat) 0) else mE ls B at_ r (n + 1)) else .short n
def lj (ls : List Int) : Nat := (dj ls).toNat
def tk (ls B : List Int) (at_ : Nat) : TR := mE ls B at_ (lj ls) 0
structure Tk (ls B : List Int) (at_ n : Nat) : Prop where
  le : n ≤ lj ls
  eq : tk ls B at_ = mE ls B at_ (lj ls - n) n
  ge : base ls n + cnt ls n ≤ acc B at_ n
  room : at_ + n ≤ 8 * B.length
theorem Ew {ls B : List Int} {at_ : Nat} (h : at_ ≤ 8 * B.length) : Tk ls B at_ 0 := ⟨Nat.zero_le _, rfl, by simp [base, cnt, acc], h⟩
section
variable {ls B : List Int} {at_ n : Nat}
theorem Tk.none (h : Tk ls B at_ n) (hm : lj ls ≤ n) : tk ls B at_ = .none_ n := by
  rw [h.eq, show lj ls - n = 0 by omega]; rfl
theorem Tk.short (h : Tk ls B at_ n) (hm : n < lj ls) (hx : 8 * B.length ≤ at_ + n) : tk ls B at_ = .short n := by
  rw [h.eq, show lj ls - n = (lj ls - (n + 1)) + 1 by omega]
  simp only [mE]
  rw [if_neg (by omega)]
theorem Tk.vw (h : Tk ls B at_ n) (hm : n < lj ls) (hx : at_ + n < 8 * B.length) (hl : acc B at_ (n + 1) - base ls (n + 1) < cnt ls (n + 1)) : tk ls B at_ = .vw (n + 1) ((ord ls).getD (off ls (n + 1) + (acc B at_ (n + 1) - base ls (n + 1)).toNat) 0) := by
  rw [h.eq, show lj ls - n = (lj ls - (n + 1)) + 1 by omega]
  simp only [mE]
  rw [if_pos hx, if_pos hl]
theorem Tk.PR (h : Tk ls B at_ n) (hm : n < lj ls) (hx : at_ + n < 8 * B.length) (hl : ¬ acc B at_ (n + 1) - base ls (n + 1) < cnt ls (n + 1)) : Tk ls B at_ (n + 1) := by
  refine ⟨hm, ?_, by omega, by omega⟩
  rw [h.eq, show lj ls - n = (lj ls - (n + 1)) + 1 by omega]
  simp only [mE]
  rw [if_pos hx, if_neg hl]
theorem Tk.nn (h : Tk ls B at_ n) : base ls (n + 1) ≤ acc B at_ (n + 1) := by
  have h1 := h.ge
  have h2 := mV B (at_ + n)
  simp only [base, acc]
  omega
end
theorem Hw (ls : List Int) : dj ls = 0 ∨ dj ls ∈ ls := by
  have key : ∀ (l : List Int) (a : Int), l.foldl (fun a x => if a < x then x else a) a = a ∨ l.foldl (fun a x => if a < x then x else a) a ∈ l := by
    intro l
    induction l with
    | nil => intro a; exact .inl rfl
    | cons y l ih =>
      intro a
      simp only [List.foldl_cons]
      rcases ih (if a < y then y else a) with h | h
      · rw [h]
        split
        · exact .inr (List.mem_cons_self ..)
        · exact .inl rfl
      · exact .inr (List.mem_cons_of_mem _ h)
  exact key ls 0
theorem KT {ls : List Int} (hV : Vl ls) : lj ls ≤ 15 := by
  unfold lj
  rcases Hw ls with h | h
  · omega
  · have := hV.2 _ h; omega
theorem M9 (ls : List Int) : dj ls = (lj ls : Int) := by
  have := zf ls
  unfold lj; omega
theorem BG {ls : List Int} (hV : Vl ls) {m : Nat} (hm : m ≤ 15) : off ls (m + 1) ≤ 320 := by
  have h1 := k8 ls (show m + 1 ≤ 16 by omega)
  have h2 := wJ hV
  have h3 := u0 ls
  have h4 := hV.1
  rw [um] at h2
  omega
theorem LR {ls : List Int} {m : Nat} (hm : m < 15) : (cM ls).getD ((m : Int) + 1).toNat 0 = cnt ls (m + 1) := by
  rw [show ((m : Int) + 1).toNat = m + 1 by omega, oT (by omega)]
theorem Kf {ls : List Int} {m : Nat} {a : Int} (hm : m < 15) (h0 : base ls (m + 1) ≤ a) (hl : a - base ls (m + 1) < cnt ls (m + 1)) : off ls (m + 1) + (a - base ls (m + 1)).toNat < (ord ls).length := by
  have := IB ls m
  exact L3 ls hm (by omega)
theorem sb {ls B : List Int} {at_ m : Nat} {s : Int} : ∀ (r n : Nat), mE ls B at_ r n = .vw m s → n < m ∧ at_ + m ≤ 8 * B.length
  | 0, n, h => by simp [mE] at h
  | r + 1, n, h => by
    simp only [mE] at h
    split at h
    · split at h
      · cases h; omega
      · have := sb r (n + 1) h; omega
    · cases h
end Go.af
namespace Go.aj
structure Pk (bs out : List Int) (fr : Nat) : Prop where
  le : fr ≤ 8
  len : 8 * out.length = bs.length + fr
  s7 : au out
  get : ∀ i, i < bs.length → jd out i = bs.getD i 0
  zero : ∀ i, bs.length ≤ i → jd out i = 0
def S2 (x b : Int) (p : Nat) : Int := ((x.toNat ||| b.toNat * 2 ^ p : Nat) : Int)
end Go.aj
namespace Go.af
open Go.aj
def wb (ls : List Int) (s : Int) : List Int := (List.range (kH ls s).toNat).map (fun i => mA ls s / 2 ^ ((kH ls s).toNat - 1 - i) % 2)
def ins (ls syms : List Int) : List Int := (syms.map (· % 330)).filter (fun s => decide (s < ls.length) && oA ls s)
def bits (ls : List Int) (l : List Int) : List Int := l.flatMap (wb ls)
end Go.af
namespace Go.aj
def lX (x : Int) (n : Nat) : List Int := (List.range n).map (fun i => x / 2 ^ i % 2)
theorem lT {x : Int} {k : Nat} (hk : k ≤ 60) {d : Int} (hd : d = (k : Int)) : x.fdiv (2 ^ (min d.toNat IntKind.i64.bits)) = x / 2 ^ k := by
  have e : min d.toNat IntKind.i64.bits = k := by
    have : IntKind.i64.bits = 64 := rfl
    omega
  rw [e, Int.fdiv_eq_ediv_of_nonneg _ (Int.le_of_lt (Int.pow_pos (by decide)))]
end Go.aj
namespace Go.ab
open Go.aj Go.af
structure St where
  at_ : Nat
  out : List Int
  kind : Int
  left : Nat
  last : Bool
  lits : List Int
  eO : List Int
  aB : Nat
  cE : Nat
  ended : Bool
def ga : List Int := List.replicate 144 8 ++ List.replicate 112 9 ++ List.replicate 24 7 ++ List.replicate 8 8
def lB : List Int := List.replicate 32 5
def sym (ls B : List Int) (a : Nat) : Except Int (Int × Nat) := match tk ls B a with
  | .vw n s => .ok (s, a + n)
  | .short _ => .error 2
  | .none_ _ => .error 4
def dN (a : Nat) : Nat := (a + 7) / 8 * 8
def mF : List Int := [16, 17, 18, 0, 8, 7, 9, 6, 10, 5, 11, 4, 12, 3, 13, 2, 14, 1, 15]
def iK (B : List Int) (a : Nat) : Nat → List Int
  | 0 => List.replicate 19 0
  | i + 1 => (iK B a i).set (mF.getD i 0).toNat (aT B (a + 3 * i) 3)
def pI (s : Int) : Nat := if s = 16 then 2 else if s = 17 then 3 else 7
def zI (s : Int) : Int := if s = 18 then 11 else 3
def Nh (s : Int) (l : List Int) : Int := if s = 16 then l.getD (l.length - 1) 0 else 0
def rep (B : List Int) (s : Int) (l : List Int) (a : Nat) : Except Int (Int × Int × Nat) :=
  if s < 16 then .ok (s, 1, a) else if 8 * B.length < a + pI s then .error 2 else if s = 16 ∧ l = [] then .error 4 else .ok (Nh s l, zI s + aT B a (pI s), a + pI s)
def kS (B c l : List Int) (a : Nat) : Except Int (List Int × Nat) := match sym c B a with
  | .error e => .error e
  | .ok (s, a) => match rep B s l a with
    | .error e => .error e
    | .ok (x, n, a) => .ok (l ++ List.replicate n.toNat x, a)
def fF (B c : List Int) (tot : Nat) : Nat → List Int → Nat → Except Int (List Int × Nat)
  | 0, l, a => .ok (l, a)
  | f + 1, l, a => if l.length < tot then (match kS B c l a with
    | .error e => .error e
    | .ok (l', a') => if l'.length ≤ tot then fF B c tot f l' a' else .error 4) else .ok (l, a)
def hL (B : List Int) (a : Nat) : Nat := 257 + (aT B a 5).toNat
def hD (B : List Int) (a : Nat) : Nat := 1 + (aT B (a + 5) 5).toNat
def hC (B : List Int) (a : Nat) : Nat := 4 + (aT B (a + 10) 4).toNat
def told (B : List Int) (a : Nat) : Except Int (Nat × List Int × List Int) :=
  if 8 * B.length < a + 14 then .error 2 else
  if ¬ (hL B a ≤ 286 ∧ hD B a ≤ 30) then .error 4 else
  if 8 * B.length < a + 14 + 3 * hC B a then .error 2 else
  if cg (iK B (a + 14) (hC B a)) ≠ 0 then .error 4 else
  match fF B (iK B (a + 14) (hC B a)) (hL B a + hD B a) (hL B a + hD B a) [] (a + 14 + 3 * hC B a) with
  | .error e => .error e
  | .ok (l, a') => if cg (l.take (hL B a)) ≠ 0 ∨ cg (l.drop (hL B a)) ≠ 0 ∨ l.getD 256 0 = 0 then .error 4 else .ok (a', l.take (hL B a), l.drop (hL B a))
def dT (B : List Int) (s : St) : Except Int St :=
  if 8 * B.length < s.at_ + 3 then .error 2 else
  if aT B (s.at_ + 1) 2 = 0 then
    (if 8 * B.length < dN (s.at_ + 3) + 32 then .error 2 else
     if aT B (dN (s.at_ + 3)) 16 = 65535 - aT B (dN (s.at_ + 3) + 16) 16 then .ok { s with at_ := dN (s.at_ + 3) + 32, kind := 0, left := (aT B (dN (s.at_ + 3)) 16).toNat, last := decide (aT B s.at_ 1 = 1) } else .error 4) else
  if aT B (s.at_ + 1) 2 = 1 then .ok { s with at_ := s.at_ + 3, kind := 1, last := decide (aT B s.at_ 1 = 1), lits := ga, eO := lB } else
  if aT B (s.at_ + 1) 2 = 2 then (match told B (s.at_ + 3) with
    | .error e => .error e
    | .ok (a, l, d) => .ok { s with at_ := a, kind := 2, last := decide (aT B s.at_ 1 = 1), lits := l, eO := d }) else .error 4
def qx (s : Int) : Int := if s < 8 then 3 + s else if s = 28 then 258 else 3 + (4 + s % 4) * 2 ^ (s / 4 - 1).toNat
def nt (s : Int) : Nat := if s < 8 ∨ s = 28 then 0 else (s / 4 - 1).toNat
def tM (d : Int) : Int := if d < 4 then 1 + d else 1 + (2 + d % 2) * 2 ^ (d / 2 - 1).toNat
def nP (d : Int) : Nat := if d < 4 then 0 else (d / 2 - 1).toNat
def eY (df : Int) (s : St) (y : Int) : Except Int St := if (s.out.length : Int) < df then .ok { s with out := s.out ++ [y] } else .error 6
def fa (B : List Int) (df : Int) (s : St) : Except Int St := match sym s.lits B s.at_ with
  | .error e => .error e
  | .ok (y, a) =>
    if y < 256 then eY df { s with at_ := a } y else
    if y = 256 then .ok { s with at_ := a, kind := -1, ended := s.last } else
    if 286 ≤ y then .error 4 else
    if 8 * B.length < a + nt (y - 257) then .error 2 else
    match sym s.eO B (a + nt (y - 257)) with
    | .error e => .error e
    | .ok (d, a3) => if 30 ≤ d then .error 4 else if 8 * B.length < a3 + nP d then .error 2 else
      if tM d + aT B a3 (nP d) ≤ s.out.length then .ok { s with at_ := a3 + nP d, aB := (qx (y - 257) + aT B a (nt (y - 257))).toNat, cE := (tM d + aT B a3 (nP d)).toNat } else .error 4
def one (B : List Int) (df : Int) (s : St) : Except Int St :=
  if 0 < s.aB then eY df { s with aB := s.aB - 1 } (s.out.getD (s.out.length - s.cE) 0) else
  if s.kind = -1 then dT B s else
  if s.kind ≠ 0 then fa B df s else
  if s.left = 0 then .ok { s with kind := -1, ended := s.last } else
  if 8 * B.length < s.at_ + 8 then .error 2 else eY df { s with at_ := s.at_ + 8, left := s.left - 1 } (aT B s.at_ 8)
def start : St := ⟨0, [], -1, 0, false, [], [], 0, 0, false⟩
abbrev Oc := Except Int (List Int × Nat)
inductive j9 (B : List Int) (df : Int) : St → Oc → Prop
  | done {s : St} : s.ended = true → j9 B df s (.ok (s.out, (s.at_ + 7) / 8))
  | step {s s' : St} {o : Oc} : s.ended = false → one B df s = .ok s' → j9 B df s' o → j9 B df s o
  | fail {s : St} {e : Int} : s.ended = false → one B df s = .error e → j9 B df s (.error e)
theorem j9.CI {B : List Int} {df : Int} {s : St} {o : Oc} (h : j9 B df s o) : ∀ {o' : Oc}, j9 B df s o' → o = o' := by
  induction h with
  | done h1 => intro o' h; cases h with
    | done _ => rfl
    | step h2 _ _ => rw [h1] at h2; cases h2
    | fail h2 _ => rw [h1] at h2; cases h2
  | step h1 h2 h3 ih => intro o' h; cases h with
    | done h4 => rw [h1] at h4; cases h4
    | step _ h5 h6 => rw [h2] at h5; cases h5; exact ih h6
    | fail _ h5 => rw [h2] at h5; cases h5
  | fail h1 h2 => intro o' h; cases h with
    | done h4 => rw [h1] at h4; cases h4
    | step _ h5 h6 => rw [h2] at h5; cases h5
    | fail _ h5 => rw [h2] at h5; cases h5; rfl
def iA (B : List Int) (df : Int) (s s' : St) : Prop := ∀ o, j9 B df s' o → j9 B df s o
theorem iA.refl (B : List Int) (df : Int) (s : St) : iA B df s s := fun _ h => h
theorem iA.trans {B : List Int} {df : Int} {s s' s'' : St} (h : iA B df s s') (k : iA B df s' s'') : iA B df s s'' := fun o r => h o (k o r)
theorem iA.one {B : List Int} {df : Int} {s s' : St} (h : s.ended = false) (k : one B df s = .ok s') : iA B df s s' := fun o r => .step h k r
def ju (ls : List Int) : Except Int Unit := if cg ls = 0 then .ok () else .error 4
section
variable {B l : List Int} {s : Int} {a : Nat}
theorem Mj (h : s < 16) : rep B s l a = .ok (s, 1, a) := if_pos h
theorem qJ (h : ¬ s < 16) (hx : 8 * B.length < a + pI s) : rep B s l a = .error 2 := by unfold rep; rw [if_neg h, if_pos hx]
theorem E3 (h : s = 16) (hl : l = []) (hx : ¬ 8 * B.length < a + pI s) : rep B s l a = .error 4 := by unfold rep; rw [if_neg (by omega), if_neg hx, if_pos ⟨h, hl⟩]
theorem xF (h : ¬ s < 16) (hx : ¬ 8 * B.length < a + pI s) (hl : ¬ (s = 16 ∧ l = [])) : rep B s l a = .ok (Nh s l, zI s + aT B a (pI s), a + pI s) := by unfold rep; rw [if_neg h, if_neg hx, if_neg hl]
end
theorem zv (B : List Int) (a : Nat) : ∀ k, (iK B a k).length = 19
  | 0 => by simp [iK]
  | k + 1 => by simp [iK, zv B a k]
theorem zi : cg ga = 0 := by decide +kernel
theorem yF : cg lB = 0 := by decide +kernel
def jf : List (Int × Int) := [(8, 144), (9, 112), (7, 24), (8, 8)]
def iN : Nat → List Int
  | 0 => []
  | k + 1 => iN k ++ List.replicate (jf.getD k (0, 0)).2.toNat (jf.getD k (0, 0)).1
theorem Cf : iN 4 = ga := by decide +kernel
theorem HS : ∀ k, k ≤ 4 → (iN k).length ≤ 288 := by
  intro k hk
  have : k = 0 ∨ k = 1 ∨ k = 2 ∨ k = 3 ∨ k = 4 := by omega
  rcases this with rfl | rfl | rfl | rfl | rfl <;> decide +kernel
theorem HB {k : Nat} (h : k < 19) : 0 ≤ mF.getD k 0 ∧ mF.getD k 0 < 19 := by
  have : ∀ k, k < 19 → 0 ≤ mF.getD k 0 ∧ mF.getD k 0 < 19 := by decide
  exact this k h
theorem BI (B : List Int) (a : Nat) : 257 + aT B a 5 = (hL B a : Int) ∧ 1 + aT B (a + 5) 5 = (hD B a : Int) ∧ 4 + aT B (a + 10) 4 = (hC B a : Int) ∧ hL B a ≤ 288 ∧ hD B a ≤ 32 ∧ hC B a ≤ 19 ∧ 4 ≤ hC B a ∧ 257 ≤ hL B a := by
  have h1 := cH B a 5
  have h2 := cH B (a + 5) 5
  have h3 := cH B (a + 10) 4
  unfold hL hD hC
  omega
end Go.ab
namespace Go.ab
open Go.aj Go.af
theorem gI {α : Type} (E : Except Int α) : (∃ e, E = .error e) ∨ ∃ x, E = .ok x := by
  cases E with
  | error e => exact .inl ⟨e, rfl⟩
  | ok x => exact .inr ⟨x, rfl⟩
theorem sb {ls B : List Int} {a : Nat} : ∀ {r n n' : Nat} {s : Int}, mE ls B a r n = .vw n' s → n < n' ∧ a + n' ≤ 8 * B.length ∧ (s ∈ ord ls ∨ s = 0) := by
  intro r
  induction r with
  | zero => intro n n' s h; simp [mE] at h
  | succ r ih =>
    intro n n' s h
    simp only [mE] at h
    split at h
    · rename_i h1
      split at h
      · cases h
        refine ⟨by omega, by omega, ?_⟩
        rw [List.getD_eq_getElem?_getD]
        cases hh : (ord ls)[off ls (n + 1) + (acc B a (n + 1) - base ls (n + 1)).toNat]? with
        | none => exact .inr rfl
        | some x => exact .inl (List.mem_of_getElem? hh)
      · have := ih h; exact ⟨by omega, this.2.1, this.2.2⟩
    · cases h
theorem qI {ls B : List Int} {a a' : Nat} {s : Int} (hE : cg ls = 0) (h0 : 0 < ls.length) (h : sym ls B a = .ok (s, a')) : 0 ≤ s ∧ s < ls.length ∧ a < a' ∧ a' ≤ 8 * B.length := by
  unfold sym at h
  split at h
  · rename_i n s' hs
    cases h
    obtain ⟨h1, h2, h3⟩ := sb hs
    have : 0 ≤ s ∧ s < ls.length := by
      rcases h3 with h3 | rfl
      · obtain ⟨k1, k2, _⟩ := (uX (lS hE).1).1 h3
        omega
      · omega
    omega
  · cases h
  · cases h
theorem wX {B l : List Int} {s x n : Int} {a a' : Nat} (ha : a ≤ 8 * B.length) (h : rep B s l a = .ok (x, n, a')) : 1 ≤ n ∧ n < 200 ∧ a ≤ a' ∧ a' ≤ 8 * B.length := by
  unfold rep at h
  split at h
  · cases h; omega
  split at h
  · cases h
  split at h
  · cases h
  cases h
  have hb := cH B a (pI s)
  have : zI s + aT B a (pI s) < 200 ∧ 1 ≤ zI s := by
    unfold zI
    unfold pI at hb ⊢
    by_cases h1 : s = 16
    · rw [if_pos h1] at hb ⊢; rw [if_neg (by omega)]; omega
    · by_cases h2 : s = 17
      · rw [if_neg h1, if_pos h2] at hb ⊢; rw [if_neg (by omega)]; omega
      · rw [if_neg h1, if_neg h2] at hb ⊢; split <;> omega
  omega
section
variable {B c l l' : List Int} {tot f a a' : Nat} {e s x n : Int}
theorem ng (h : tot ≤ l.length) : fF B c tot f l a = .ok (l, a) := by
  cases f with
  | zero => rfl
  | succ f => simp only [fF]; rw [if_neg (by omega)]
theorem pj (h : l.length < tot) (hf : tot ≤ f + l.length) (k : kS B c l a = .error e) : fF B c tot f l a = .error e := by
  obtain ⟨f, rfl⟩ : ∃ g, f = g + 1 := ⟨f - 1, by omega⟩
  simp only [fF]; rw [if_pos h, k]
theorem vu (h : l.length < tot) (hf : tot ≤ f + l.length) (k : kS B c l a = .ok (l', a')) (hl : l'.length ≤ tot) : fF B c tot f l a = fF B c tot (f - 1) l' a' := by
  obtain ⟨f, rfl⟩ : ∃ g, f = g + 1 := ⟨f - 1, by omega⟩
  simp only [fF]; rw [if_pos h, k]; simp only; rw [if_pos hl]; rfl
theorem xk (h : l.length < tot) (hf : tot ≤ f + l.length) (k : kS B c l a = .ok (l', a')) (hl : ¬ l'.length ≤ tot) : fF B c tot f l a = .error 4 := by
  obtain ⟨f, rfl⟩ : ∃ g, f = g + 1 := ⟨f - 1, by omega⟩
  simp only [fF]; rw [if_pos h, k]; simp only; rw [if_neg hl]
theorem r5 (h : sym c B a = .error e) : kS B c l a = .error e := by unfold kS; rw [h]
theorem so (h : sym c B a = .ok (s, a')) (k : rep B s l a' = .error e) : kS B c l a = .error e := by unfold kS; rw [h]; simp only; rw [k]
theorem nf {a'' : Nat} (h : sym c B a = .ok (s, a')) (k : rep B s l a' = .ok (x, n, a'')) : kS B c l a = .ok (l ++ List.replicate n.toNat x, a'') := by unfold kS; rw [h]; simp only; rw [k]
end
theorem Ag (B c l : List Int) (a : Nat) : (∃ e, sym c B a = .error e) ∨ (∃ s a' e, sym c B a = .ok (s, a') ∧ rep B s l a' = .error e) ∨ (∃ s a' x n a'', sym c B a = .ok (s, a') ∧ rep B s l a' = .ok (x, n, a'')) := by
  rcases gI (sym c B a) with ⟨e, h⟩ | ⟨⟨s, a'⟩, h⟩
  · exact .inl ⟨e, h⟩
  · rcases gI (rep B s l a') with ⟨e, k⟩ | ⟨⟨x, n, a''⟩, k⟩
    · exact .inr (.inl ⟨s, a', e, h, k⟩)
    · exact .inr (.inr ⟨s, a', x, n, a'', h, k⟩)
def dg (B : List Int) (a : Nat) : List Int := iK B (a + 14) (hC B a)
def dE (B : List Int) (a : Nat) : Nat := hL B a + hD B a
def ew (B : List Int) (a : Nat) : Nat := a + 14 + 3 * hC B a
section
variable {B l : List Int} {a a' : Nat} {e : Int}
theorem ud (h : 8 * B.length < a + 14) : told B a = .error 2 := if_pos h
theorem xP (h : a + 14 ≤ 8 * B.length) (k : ¬ (hL B a ≤ 286 ∧ hD B a ≤ 30)) : told B a = .error 4 := by
  unfold told; rw [if_neg (by omega), if_pos k]
theorem Di (h : a + 14 ≤ 8 * B.length) (k : hL B a ≤ 286 ∧ hD B a ≤ 30) (x : 8 * B.length < ew B a) : told B a = .error 2 := by
  unfold told; rw [if_neg (by omega), if_neg (fun h => h k)]; exact if_pos x
theorem DB (h : a + 14 ≤ 8 * B.length) (k : hL B a ≤ 286 ∧ hD B a ≤ 30) (x : ew B a ≤ 8 * B.length) (y : cg (dg B a) ≠ 0) : told B a = .error 4 := by
  unfold told; rw [if_neg (by omega), if_neg (fun h => h k), if_neg (by unfold ew at x; omega)]; exact if_pos y
theorem uS (h : a + 14 ≤ 8 * B.length) (k : hL B a ≤ 286 ∧ hD B a ≤ 30) (x : ew B a ≤ 8 * B.length) (y : cg (dg B a) = 0) : told B a = (match fF B (dg B a) (dE B a) (dE B a) [] (ew B a) with
    | .error e => .error e
    | .ok (l, a') => if cg (l.take (hL B a)) ≠ 0 ∨ cg (l.drop (hL B a)) ≠ 0 ∨ l.getD 256 0 = 0 then .error 4 else .ok (a', l.take (hL B a), l.drop (hL B a))) := by
  unfold told; rw [if_neg (by omega), if_neg (fun h => h k), if_neg (by unfold ew at x; omega)]; exact if_neg (fun h => h y)
theorem sY (h : a + 14 ≤ 8 * B.length) (k : hL B a ≤ 286 ∧ hD B a ≤ 30) (x : ew B a ≤ 8 * B.length) (y : cg (dg B a) = 0) (z : fF B (dg B a) (dE B a) (dE B a) [] (ew B a) = .error e) : told B a = .error e := by
  rw [uS h k x y, z]
theorem sX (h : a + 14 ≤ 8 * B.length) (k : hL B a ≤ 286 ∧ hD B a ≤ 30) (x : ew B a ≤ 8 * B.length) (y : cg (dg B a) = 0) (z : fF B (dg B a) (dE B a) (dE B a) [] (ew B a) = .ok (l, a')) (q : cg (l.take (hL B a)) ≠ 0 ∨ cg (l.drop (hL B a)) ≠ 0 ∨ l.getD 256 0 = 0) : told B a = .error 4 := by
  rw [uS h k x y, z]; exact if_pos q
theorem Bg (h : a + 14 ≤ 8 * B.length) (k : hL B a ≤ 286 ∧ hD B a ≤ 30) (x : ew B a ≤ 8 * B.length) (y : cg (dg B a) = 0) (z : fF B (dg B a) (dE B a) (dE B a) [] (ew B a) = .ok (l, a')) (q1 : cg (l.take (hL B a)) = 0) (q2 : cg (l.drop (hL B a)) = 0) (q3 : l.getD 256 0 ≠ 0) : told B a = .ok (a', l.take (hL B a), l.drop (hL B a)) := by
  rw [uS h k x y, z]; exact if_neg (fun h => by rcases h with h | h | h; exact h q1; exact h q2; exact q3 h)
end
theorem jc (B : List Int) (a : Nat) : (dg B a).length = 19 := zv _ _ _
theorem Ir {k : Nat} (h : k < 4) : (jf.getD k (0, 0)).2 = ((jf.getD k (0, 0)).2.toNat : Int) ∧ (jf.getD k (0, 0)).2.toNat < 200 := by
  have : ∀ k, k < 4 → (jf.getD k (0, 0)).2 = ((jf.getD k (0, 0)).2.toNat : Int) ∧ (jf.getD k (0, 0)).2.toNat < 200 := by decide
  exact this k h
theorem yI {ls : List Int} (hE : cg ls = 0) (i : Nat) : 0 ≤ ls.getD i 0 := by
  have hV := (lS hE).1
  rw [List.getD_eq_getElem?_getD]
  cases h : ls[i]? with
  | none => exact Int.le_refl _
  | some x => exact (hV.2 x (List.mem_of_getElem? h)).1
theorem getD_take {l : List Int} {n i : Nat} (h : i < n) : (l.take n).getD i 0 = l.getD i 0 := by
  simp [List.getD_eq_getElem?_getD, List.getElem?_take, h]
end Go.ab
namespace Go.ab
open Go.aj
theorem Cl (k : Nat) : iN (k + 1) = iN k ++ List.replicate (jf.getD k (0, 0)).2.toNat (jf.getD k (0, 0)).1 := rfl
theorem M4 {k : Nat} (h : k < 4) : 0 ≤ (jf.getD k (0, 0)).2 ∧ (jf.getD k (0, 0)).2 < 200 := by have := Ir h; omega
theorem Fv (B : List Int) (a : Nat) : iK B a 0 = List.replicate 19 0 := rfl
theorem FW (B : List Int) (a k : Nat) : iK B a (k + 1) = (iK B a k).set (mF.getD k 0).toNat (aT B (a + 3 * k) 3) := rfl
theorem NU (n a : Nat) : 8 * n < a + 5 ∨ (a + 5 ≤ 8 * n ∧ 8 * n < a + 10) ∨ (a + 10 ≤ 8 * n ∧ 8 * n < a + 14) ∨ a + 14 ≤ 8 * n := by omega
theorem Jz (p q : Prop) : (p ∧ q) ∨ (p ∧ ¬ q) ∨ ¬ p := by
  rcases Classical.em p with h | h
  · rcases Classical.em q with k | k
    · exact .inl ⟨h, k⟩
    · exact .inr (.inl ⟨h, k⟩)
  · exact .inr (.inr h)
theorem xa (B : List Int) (a : Nat) : dE B a = hL B a + hD B a := rfl
theorem xi (B : List Int) (a : Nat) : ew B a = a + 14 + 3 * hC B a := rfl
theorem wU (B : List Int) (a : Nat) : dg B a = iK B (a + 14) (hC B a) := rfl
end Go.ab
namespace Go.ab
end Go.ab
namespace Go.ab
open Go.aj Go.af
def fw (B : List Int) (s : Int) (a : Nat) : Except Int (Int × Nat) := if 29 ≤ s then .error 4 else if 8 * B.length < a + nt s then .error 2 else .ok (qx s + aT B a (nt s), a + nt s)
def eI (B ds : List Int) (a : Nat) : Except Int (Int × Nat) := match sym ds B a with
  | .error e => .error e
  | .ok (d, a3) => if 30 ≤ d then .error 4 else if 8 * B.length < a3 + nP d then .error 2 else .ok (tM d + aT B a3 (nP d), a3 + nP d)
theorem qC (B : List Int) (a : Nat) : aT B a 0 = 0 := rfl
section
variable {B : List Int} {s : Int} {a : Nat}
theorem Cb (h : 29 ≤ s) : fw B s a = .error 4 := if_pos h
def gK (s : Int) : Nat := (s / 4 - 1).toNat
def gT (s : Int) : Nat := (s / 2 - 1).toNat
theorem zu (h : s < 8 ∨ s = 28) : nt s = 0 := if_pos h
theorem GR (h : 8 ≤ s) (h2 : s < 28) : nt s = gK s := if_neg (by omega)
theorem Hx (h : s < 8) : qx s = 3 + s := if_pos h
theorem HJ (h : s = 28) : qx s = 258 := by unfold qx; rw [if_neg (by omega)]; exact if_pos h
theorem NB (h : 8 ≤ s) (h2 : s < 28) : qx s = 3 + (4 + s % 4) * 2 ^ gK s := by unfold qx; rw [if_neg (by omega), if_neg (by omega)]; rfl
theorem HM (h : s < 4) : nP s = 0 := if_pos h
theorem GU (h : 4 ≤ s) : nP s = gT s := if_neg (by omega)
theorem IM (h : s < 4) : tM s = 1 + s := if_pos h
theorem NN (h : 4 ≤ s) : tM s = 1 + (2 + s % 2) * 2 ^ gT s := if_neg (by omega)
theorem zQ (h0 : 0 ≤ s) (h : s < 8) (ha : a ≤ 8 * B.length) : fw B s a = .ok (3 + s, a) := by
  unfold fw
  rw [if_neg (by omega), zu (.inl h), Hx h, qC, Int.add_zero]; exact if_neg (by omega)
theorem zU (h : s = 28) (ha : a ≤ 8 * B.length) : fw B s a = .ok (258, a) := by
  unfold fw
  rw [if_neg (by omega), zu (.inr h), HJ h, qC, Int.add_zero]; exact if_neg (by omega)
theorem vz (h : 8 ≤ s) (h2 : s < 28) (hx : 8 * B.length < a + gK s) : fw B s a = .error 2 := by
  unfold fw
  rw [if_neg (by omega), GR h h2]; exact if_pos hx
theorem DL (h : 8 ≤ s) (h2 : s < 28) (hx : a + gK s ≤ 8 * B.length) : fw B s a = .ok (3 + (4 + s % 4) * 2 ^ gK s + aT B a (gK s), a + gK s) := by
  unfold fw
  rw [if_neg (by omega), GR h h2, NB h h2]; exact if_neg (by omega)
theorem xW (h : 8 ≤ s) (h2 : s < 28) : s / 4 - 1 = (gK s : Int) ∧ gK s ≤ 5 ∧ 1 ≤ gK s := by unfold gK; omega
theorem ym (h : 4 ≤ s) (h2 : s < 30) : s / 2 - 1 = (gT s : Int) ∧ gT s ≤ 13 ∧ 1 ≤ gT s := by unfold gT; omega
end
section
variable {B ds : List Int} {s e : Int} {a a3 : Nat}
theorem CR (h : sym ds B a = .error e) : eI B ds a = .error e := by unfold eI; rw [h]
theorem yS (h : sym ds B a = .ok (s, a3)) (k : 30 ≤ s) : eI B ds a = .error 4 := by unfold eI; rw [h]; exact if_pos k
theorem xy (h : sym ds B a = .ok (s, a3)) (h0 : 0 ≤ s) (k : s < 4) (ha : a3 ≤ 8 * B.length) : eI B ds a = .ok (1 + s, a3) := by
  unfold eI; rw [h]; simp only; rw [if_neg (by omega), HM k, IM k, qC, Int.add_zero]; exact if_neg (by omega)
theorem tZ (h : sym ds B a = .ok (s, a3)) (h1 : 4 ≤ s) (h2 : s < 30) (hx : 8 * B.length < a3 + gT s) : eI B ds a = .error 2 := by
  unfold eI; rw [h]; simp only; rw [if_neg (by omega), GU h1]; exact if_pos hx
theorem zo (h : sym ds B a = .ok (s, a3)) (h1 : 4 ≤ s) (h2 : s < 30) (hx : a3 + gT s ≤ 8 * B.length) : eI B ds a = .ok (1 + (2 + s % 2) * 2 ^ gT s + aT B a3 (gT s), a3 + gT s) := by
  unfold eI; rw [h]; simp only; rw [if_neg (by omega), GU h1, NN h1]; exact if_neg (by omega)
end
theorem mv {x : Int} {n : Nat} (h0 : 0 ≤ x) (h1 : x < 8) (hn : n ≤ 13) {d : Int} (hd : d = (n : Int)) : IntKind.i64.wrap (x * 2 ^ (min d.toNat IntKind.i64.bits)) = x * 2 ^ n ∧ 0 ≤ x * 2 ^ n ∧ x * 2 ^ n < 65536 := by
  have e : min d.toNat IntKind.i64.bits = n := by
    have : IntKind.i64.bits = 64 := rfl
    omega
  have hp : (2 : Int) ^ n ≤ 2 ^ 13 := by
    have := Nat.pow_le_pow_right (n := 2) (by decide) hn
    have e2 : ((2 : Int) ^ n) = ((2 ^ n : Nat) : Int) := by simp
    rw [e2]; exact_mod_cast this
  have h2 : (0 : Int) < 2 ^ n := Int.pow_pos (by decide)
  have h3 : 0 ≤ x * 2 ^ n := Int.mul_nonneg h0 (Int.le_of_lt h2)
  have h4 : x * 2 ^ n ≤ 7 * 2 ^ 13 := Int.le_trans (Int.mul_le_mul_of_nonneg_right (show x ≤ 7 by omega) (Int.le_of_lt h2)) (Int.mul_le_mul_of_nonneg_left hp (by decide))
  rw [e]
  exact ⟨Sl.gF (by omega) (by omega), h3, by omega⟩
theorem Gr {x y : Int} (hx : 0 ≤ x ∧ x < 65536) (hy : 0 ≤ y ∧ y < 65536) : (IntKind.i64.wrap ((BitVec.ofInt IntKind.i64.bits x ^^^ BitVec.ofInt IntKind.i64.bits y).toNat : Int) = 65535) ↔ x = 65535 - y := by
  obtain ⟨a, rfl⟩ : ∃ a : Nat, x = (a : Int) := ⟨x.toNat, by omega⟩
  obtain ⟨b, rfl⟩ : ∃ b : Nat, y = (b : Int) := ⟨y.toNat, by omega⟩
  have e : IntKind.i64.bits = 64 := rfl
  have ha : a < 2 ^ 16 := by omega
  have hb : b < 2 ^ 16 := by omega
  have hlt : a ^^^ b < 2 ^ 16 := Nat.xor_lt_two_pow ha hb
  rw [e, BitVec.toNat_xor, eF, eF, Nat.mod_eq_of_lt (by omega), Nat.mod_eq_of_lt (by omega), Sl.gF (by omega) (by omega)]
  have hc : b ^^^ 65535 = 65535 - b := by
    have h1 : (BitVec.ofNat 16 b ^^^ BitVec.allOnes 16) = ~~~ (BitVec.ofNat 16 b) := BitVec.xor_allOnes
    have h2 := congrArg BitVec.toNat h1
    rw [BitVec.toNat_xor, BitVec.toNat_not, BitVec.toNat_ofNat, BitVec.toNat_allOnes, Nat.mod_eq_of_lt hb] at h2
    exact h2
  constructor
  · intro h
    have h' : a ^^^ b = 65535 := by omega
    have : a = 65535 ^^^ b := by rw [← h', Nat.xor_assoc, Nat.xor_self, Nat.xor_zero]
    rw [Nat.xor_comm, hc] at this
    omega
  · intro h
    have h' : a = 65535 - b := by omega
    rw [h', ← hc, Nat.xor_comm b, Nat.xor_assoc, Nat.xor_self, Nat.xor_zero]
    rfl
section
variable {B : List Int} {s : St} {e : Int}
theorem Ba (h : 8 * B.length < s.at_ + 3) : dT B s = .error 2 := if_pos h
theorem wo (h : s.at_ + 3 ≤ 8 * B.length) (k : aT B (s.at_ + 1) 2 = 0) (hx : 8 * B.length < dN (s.at_ + 3) + 32) : dT B s = .error 2 := by
  unfold dT; rw [if_neg (by omega), if_pos k]; exact if_pos hx
theorem CM (h : s.at_ + 3 ≤ 8 * B.length) (k : aT B (s.at_ + 1) 2 = 0) (hx : dN (s.at_ + 3) + 32 ≤ 8 * B.length) (hm : aT B (dN (s.at_ + 3)) 16 ≠ 65535 - aT B (dN (s.at_ + 3) + 16) 16) : dT B s = .error 4 := by
  unfold dT; rw [if_neg (by omega), if_pos k, if_neg (by omega)]; exact if_neg hm
theorem xv (h : s.at_ + 3 ≤ 8 * B.length) (k : aT B (s.at_ + 1) 2 = 0) (hx : dN (s.at_ + 3) + 32 ≤ 8 * B.length) (hm : aT B (dN (s.at_ + 3)) 16 = 65535 - aT B (dN (s.at_ + 3) + 16) 16) : dT B s = .ok { s with at_ := dN (s.at_ + 3) + 32, kind := 0, left := (aT B (dN (s.at_ + 3)) 16).toNat, last := decide (aT B s.at_ 1 = 1) } := by
  unfold dT; rw [if_neg (by omega), if_pos k, if_neg (by omega)]; exact if_pos hm
theorem F7 (h : s.at_ + 3 ≤ 8 * B.length) (k : aT B (s.at_ + 1) 2 = 1) : dT B s = .ok { s with at_ := s.at_ + 3, kind := 1, last := decide (aT B s.at_ 1 = 1), lits := ga, eO := lB } := by
  unfold dT; rw [if_neg (by omega), if_neg (by omega)]; exact if_pos k
theorem BX (h : s.at_ + 3 ≤ 8 * B.length) (k : aT B (s.at_ + 1) 2 = 2) (t : told B (s.at_ + 3) = .error e) : dT B s = .error e := by
  unfold dT; rw [if_neg (by omega), if_neg (by omega), if_neg (by omega), if_pos k, t]
theorem Cr {a : Nat} {l d : List Int} (h : s.at_ + 3 ≤ 8 * B.length) (k : aT B (s.at_ + 1) 2 = 2) (t : told B (s.at_ + 3) = .ok (a, l, d)) : dT B s = .ok { s with at_ := a, kind := 2, last := decide (aT B s.at_ 1 = 1), lits := l, eO := d } := by
  unfold dT; rw [if_neg (by omega), if_neg (by omega), if_neg (by omega), if_pos k, t]
theorem BR (h : s.at_ + 3 ≤ 8 * B.length) (k : aT B (s.at_ + 1) 2 ≠ 0) (k1 : aT B (s.at_ + 1) 2 ≠ 1) (k2 : aT B (s.at_ + 1) 2 ≠ 2) : dT B s = .error 4 := by
  unfold dT; rw [if_neg (by omega), if_neg k, if_neg k1]; exact if_neg k2
end
section
variable {B : List Int} {df : Int} {s : St} {y n f e : Int} {a a2 a3 : Nat}
theorem vV (h : sym s.lits B s.at_ = .error e) : fa B df s = .error e := by unfold fa; rw [h]
theorem od (h : sym s.lits B s.at_ = .ok (y, a)) (k : y < 256) : fa B df s = eY df { s with at_ := a } y := by unfold fa; rw [h]; exact if_pos k
theorem ru (h : sym s.lits B s.at_ = .ok (y, a)) (k : y = 256) : fa B df s = .ok { s with at_ := a, kind := -1, ended := s.last } := by unfold fa; rw [h]; simp only; rw [if_neg (by omega)]; exact if_pos k
theorem tz (h : sym s.lits B s.at_ = .ok (y, a)) (k : 256 < y) : fa B df s = (match fw B (y - 257) a with
    | .error e => .error e
    | .ok (n, a2) => match eI B s.eO a2 with
      | .error e => .error e
      | .ok (f, a3) => if f ≤ s.out.length then .ok { s with at_ := a3, aB := n.toNat, cE := f.toNat } else .error 4) := by
  unfold fa fw; rw [h]; simp only
  rw [if_neg (by omega), if_neg (by omega)]
  by_cases h1 : 286 ≤ y
  · rw [if_pos h1, if_pos (show 29 ≤ y - 257 by omega)]
  · rw [if_neg h1, if_neg (show ¬ 29 ≤ y - 257 by omega)]
    by_cases h2 : 8 * B.length < a + nt (y - 257)
    · rw [if_pos h2, if_pos h2]
    · rw [if_neg h2, if_neg h2]
      unfold eI
      simp only
      cases hs : sym s.eO B (a + nt (y - 257)) with
      | error e => rfl
      | ok q =>
        obtain ⟨d, a3⟩ := q
        simp only
        by_cases h3 : 30 ≤ d
        · rw [if_pos h3, if_pos h3]
        · rw [if_neg h3, if_neg h3]
          by_cases h4 : 8 * B.length < a3 + nP d
          · rw [if_pos h4, if_pos h4]
          · rw [if_neg h4, if_neg h4]
theorem vH (h : sym s.lits B s.at_ = .ok (y, a)) (k : 256 < y) (l : fw B (y - 257) a = .error e) : fa B df s = .error e := by rw [tz h k, l]
theorem vT (h : sym s.lits B s.at_ = .ok (y, a)) (k : 256 < y) (l : fw B (y - 257) a = .ok (n, a2)) (w : eI B s.eO a2 = .error e) : fa B df s = .error e := by rw [tz h k, l]; simp only; rw [w]
theorem vI (h : sym s.lits B s.at_ = .ok (y, a)) (k : 256 < y) (l : fw B (y - 257) a = .ok (n, a2)) (w : eI B s.eO a2 = .ok (f, a3)) (q : ¬ f ≤ s.out.length) : fa B df s = .error 4 := by rw [tz h k, l]; simp only; rw [w]; exact if_neg q
theorem vM (h : sym s.lits B s.at_ = .ok (y, a)) (k : 256 < y) (l : fw B (y - 257) a = .ok (n, a2)) (w : eI B s.eO a2 = .ok (f, a3)) (q : f ≤ s.out.length) : fa B df s = .ok { s with at_ := a3, aB := n.toNat, cE := f.toNat } := by rw [tz h k, l]; simp only; rw [w]; exact if_pos q
end
theorem BY {B : List Int} {s n : Int} {a a2 : Nat} (h0 : 0 ≤ s) (ha : a ≤ 8 * B.length) (h : fw B s a = .ok (n, a2)) : 3 ≤ n ∧ n < 400 ∧ a ≤ a2 ∧ a2 ≤ 8 * B.length := by
  by_cases h1 : s < 8
  · rw [zQ h0 h1 ha] at h; cases h; omega
  by_cases h2 : 29 ≤ s
  · rw [Cb h2] at h; cases h
  by_cases h3 : s = 28
  · rw [zU h3 ha] at h; cases h; omega
  by_cases h4 : a + gK s ≤ 8 * B.length
  · rw [DL (by omega) (by omega) h4] at h; cases h
    obtain ⟨k1, k2, k3⟩ := xW (s := s) (by omega) (by omega)
    have hb := cH B a (gK s)
    have : gK s = 1 ∨ gK s = 2 ∨ gK s = 3 ∨ gK s = 4 ∨ gK s = 5 := by omega
    rcases this with e | e | e | e | e <;> rw [e] at hb ⊢ <;> omega
  · rw [vz (by omega) (by omega) (by omega)] at h; cases h
theorem Ax {B ds : List Int} {n : Int} {a a3 : Nat} (hE : cg ds = 0) (hd : 0 < ds.length) (h : eI B ds a = .ok (n, a3)) : 1 ≤ n ∧ n < 100000 ∧ a ≤ a3 ∧ a3 ≤ 8 * B.length := by
  cases hs : sym ds B a with
  | error e => rw [CR hs] at h; cases h
  | ok q =>
    obtain ⟨s, b⟩ := q
    have hg := qI hE hd hs
    by_cases h2 : 30 ≤ s
    · rw [yS hs h2] at h; cases h
    by_cases h1 : s < 4
    · rw [xy hs hg.1 h1 hg.2.2.2] at h; cases h; omega
    by_cases h4 : b + gT s ≤ 8 * B.length
    · rw [zo hs (by omega) (by omega) h4] at h; cases h
      obtain ⟨k1, k2, k3⟩ := ym (s := s) (by omega) (by omega)
      have hb := cH B b (gT s)
      obtain ⟨_, m1, m2⟩ := mv (x := 2 + s % 2) (n := gT s) (by omega) (by omega) (by omega) rfl
      have hp : (2 : Int) ^ gT s ≤ 2 ^ 13 := by
        have := Nat.pow_le_pow_right (n := 2) (by decide) k2
        have e2 : ((2 : Int) ^ gT s) = ((2 ^ gT s : Nat) : Int) := by simp
        rw [e2]; exact_mod_cast this
      omega
    · rw [tZ hs (by omega) (by omega) (by omega)] at h; cases h
end Go.ab
namespace Go.ab
open Go.aj Go.af
theorem Bm {B : List Int} {s : Int} {a : Nat} (h0 : 0 ≤ s) (ha : a ≤ 8 * B.length) : (∃ e, fw B s a = .error e) ∨ ∃ n a2 : Nat, fw B s a = .ok ((n : Int), a2) ∧ 3 ≤ n ∧ n < 400 ∧ a ≤ a2 ∧ a2 ≤ 8 * B.length := by
  rcases gI (fw B s a) with h | ⟨⟨n, a2⟩, h⟩
  · exact .inl h
  · have hg := BY h0 ha h
    refine .inr ⟨n.toNat, a2, ?_, by omega, by omega, hg.2.2.1, hg.2.2.2⟩
    rw [h, Int.toNat_of_nonneg (by omega)]
theorem y9 {B ds : List Int} {a : Nat} (hE : cg ds = 0) (hd : 0 < ds.length) : (∃ e, eI B ds a = .error e) ∨ ∃ f a2 : Nat, eI B ds a = .ok ((f : Int), a2) ∧ 1 ≤ f ∧ f < 100000 ∧ a ≤ a2 ∧ a2 ≤ 8 * B.length := by
  rcases gI (eI B ds a) with h | ⟨⟨n, a2⟩, h⟩
  · exact .inl h
  · have hg := Ax hE hd h
    refine .inr ⟨n.toNat, a2, ?_, by omega, by omega, hg.2.2.1, hg.2.2.2⟩
    rw [h, Int.toNat_of_nonneg (by omega)]
theorem xH {B ls : List Int} {a : Nat} (hE : cg ls = 0) (hd : 0 < ls.length) : (∃ e, sym ls B a = .error e) ∨ ∃ (y : Int) (a2 : Nat), sym ls B a = .ok (y, a2) ∧ 0 ≤ y ∧ y < ls.length ∧ a < a2 ∧ a2 ≤ 8 * B.length := by
  rcases gI (sym ls B a) with h | ⟨⟨y, a2⟩, h⟩
  · exact .inl h
  · exact .inr ⟨y, a2, h, qI hE hd h⟩
structure Ok (B : List Int) (mo : Int) (s : St) : Prop where
  at_ : s.at_ ≤ 8 * B.length
  room : (s.out.length : Int) ≤ mo
  s7 : au s.out
  kind : s.kind = -1 ∨ s.kind = 0 ∨ s.kind = 1 ∨ s.kind = 2
  left : s.left < 65536
  Gw : 0 < s.kind → cg s.lits = 0 ∧ cg s.eO = 0 ∧ 0 < s.lits.length ∧ 0 < s.eO.length
  aB : s.aB < 400
  cE : 0 < s.aB → 1 ≤ s.cE ∧ s.cE ≤ s.out.length
theorem C0 {B l d : List Int} {a a' : Nat} (h : told B a = .ok (a', l, d)) : cg l = 0 ∧ cg d = 0 ∧ 0 < l.length ∧ 0 < d.length ∧ a < a' ∧ a' ≤ 8 * B.length := by
  by_cases h1 : 8 * B.length < a + 14
  · rw [ud h1] at h; cases h
  by_cases h2' : ¬ (hL B a ≤ 286 ∧ hD B a ≤ 30)
  · rw [xP (by omega) h2'] at h; cases h
  have h2 := Classical.not_not.1 h2'
  by_cases h3 : 8 * B.length < ew B a
  · rw [Di (by omega) h2 h3] at h; cases h
  by_cases h4' : cg (dg B a) ≠ 0
  · rw [DB (by omega) h2 (by omega) h4'] at h; cases h
  have h4 := Classical.not_not.1 h4'
  cases h5 : fF B (dg B a) (dE B a) (dE B a) [] (ew B a) with
  | error e => rw [sY (by omega) h2 (by omega) h4 h5] at h; cases h
  | ok q =>
    obtain ⟨ls, a2⟩ := q
    by_cases h6 : cg (ls.take (hL B a)) ≠ 0 ∨ cg (ls.drop (hL B a)) ≠ 0 ∨ ls.getD 256 0 = 0
    · rw [sX (by omega) h2 (by omega) h4 h5 h6] at h; cases h
    · have h7 : cg (ls.take (hL B a)) = 0 := by
        rcases Classical.em (cg (ls.take (hL B a)) = 0) with k | k
        · exact k
        · exact (h6 (.inl k)).elim
      have h8 : cg (ls.drop (hL B a)) = 0 := by
        rcases Classical.em (cg (ls.drop (hL B a)) = 0) with k | k
        · exact k
        · exact (h6 (.inr (.inl k))).elim
      have h9 : ls.getD 256 0 ≠ 0 := fun k => h6 (.inr (.inr k))
      rw [Bg (by omega) h2 (by omega) h4 h5 h7 h8 h9] at h
      cases h
      have key : ∀ (f : Nat) (l : List Int) (x : Nat), dE B a ≤ f + l.length → l.length ≤ dE B a → x ≤ 8 * B.length → fF B (dg B a) (dE B a) f l x = .ok (ls, a') → ls.length = dE B a ∧ x ≤ a' ∧ a' ≤ 8 * B.length := by
        intro f
        induction f with
        | zero => intro l x k1 k2 k3 k4; rw [ng (by omega)] at k4; cases k4; exact ⟨by omega, Nat.le_refl _, k3⟩
        | succ f ih =>
          intro l x k1 k2 k3 k4
          by_cases hl : dE B a ≤ l.length
          · rw [ng hl] at k4; cases k4; exact ⟨by omega, Nat.le_refl _, k3⟩
          · rcases Ag B (dg B a) l x with ⟨e, hs⟩ | ⟨sy, x2, e, hs, hr⟩ | ⟨sy, x2, v, n, x3, hs, hr⟩
            · rw [pj (by omega) k1 (r5 hs)] at k4; cases k4
            · rw [pj (by omega) k1 (so hs hr)] at k4; cases k4
            · have hsg := qI h4 (by rw [jc]; omega) hs
              have hrg := wX hsg.2.2.2 hr
              by_cases hb : (l ++ List.replicate n.toNat v).length ≤ dE B a
              · rw [vu (by omega) k1 (nf hs hr) hb] at k4
                have := ih _ _ (by rw [List.length_append, List.length_replicate]; omega) hb hrg.2.2.2 k4
                exact ⟨this.1, by omega, this.2.2⟩
              · rw [xk (by omega) k1 (nf hs hr) hb] at k4; cases k4
      have hA := xi B a
      have := key _ [] _ (Nat.le_add_right _ _) (Nat.zero_le _) (show ew B a ≤ 8 * B.length by omega) h5
      have hN := xa B a
      have hd := BI B a
      have hn2 := cH B (a + 5) 5
      refine ⟨h7, h8, ?_, ?_, by omega, this.2.2⟩
      · rw [List.length_take]; omega
      · rw [List.length_drop]
        have : 1 ≤ hD B a := by omega
        omega
end Go.ab
namespace Go.ab
open Go.aj Go.af
theorem yr {ls : List Int} (h : cg ls = 0) : ls.length ≤ 320 := (lS h).1.1
theorem yn (a : Nat) : dN a = (a + 7) / 8 * 8 := rfl
theorem OB (n a : Nat) : 8 * n < a + 16 ∨ (a + 16 ≤ 8 * n ∧ 8 * n < a + 32) ∨ a + 32 ≤ 8 * n := by omega
end Go.ab
namespace Go.ab
open Go.aj Go.af
section
variable {B : List Int} {mo y e : Int} {s s2 : St} {at_ : Nat}
theorem qS (h : eY mo s y = .ok s2) : (s.out.length : Int) < mo ∧ s2 = { s with out := s.out ++ [y] } := by
  unfold eY at h
  split at h
  · cases h; rename_i k; exact ⟨k, rfl⟩
  · cases h
theorem mT (h : (s.out.length : Int) < mo) : eY mo s y = .ok { s with out := s.out ++ [y] } := if_pos h
theorem mX (h : ¬ (s.out.length : Int) < mo) : eY mo s y = .error 6 := if_neg h
theorem Ku (h : eY mo { s with at_ := at_ } y = .error e) : eY mo s y = .error e := by
  by_cases k : (s.out.length : Int) < mo
  · rw [mT (s := { s with at_ := at_ }) k] at h; cases h
  · rw [mX (s := { s with at_ := at_ }) k] at h; rw [mX k]; exact h
theorem KG (B : List Int) (a : Nat) (mo : Int) (s : St) (y : Int) : 8 * B.length < a + 8 ∨ (a + 8 ≤ 8 * B.length ∧ ∃ e, eY mo s y = .error e) ∨ (a + 8 ≤ 8 * B.length ∧ ∃ s2, eY mo s y = .ok s2) := by
  rcases Nat.lt_or_ge (8 * B.length) (a + 8) with h | h
  · exact .inl h
  · rcases gI (eY mo s y) with k | k
    · exact .inr (.inl ⟨h, k⟩)
    · exact .inr (.inr ⟨h, k⟩)
theorem Kz (h : 0 < s.aB) (k : (s.out.length : Int) < mo) : one B mo s = .ok { s with aB := s.aB - 1, out := s.out ++ [s.out.getD (s.out.length - s.cE) 0] } := by
  unfold one; rw [if_pos h]; exact mT k
theorem Mt (h : 0 < s.aB) (k : eY mo s (s.out.getD (s.out.length - s.cE) 0) = .error e) : one B mo s = .error e := by
  unfold one; rw [if_pos h]
  by_cases q : (s.out.length : Int) < mo
  · rw [mT q] at k; cases k
  · rw [mX q] at k; rw [← k]; exact mX q
theorem tO (h : ¬ 0 < s.aB) (k : s.kind = -1) : one B mo s = dT B s := by unfold one; rw [if_neg h, if_pos k]
theorem vO (h : ¬ 0 < s.aB) (k : ¬ s.kind = -1) (k0 : s.kind ≠ 0) : one B mo s = fa B mo s := by unfold one; rw [if_neg h, if_neg k, if_pos k0]
theorem th (h : ¬ 0 < s.aB) (k : ¬ s.kind = -1) (k0 : s.kind = 0) (l : s.left = 0) : one B mo s = .ok { s with kind := -1, ended := s.last } := by unfold one; rw [if_neg h, if_neg k, if_neg (by omega), if_pos l]
theorem w7 (h : ¬ 0 < s.aB) (k : ¬ s.kind = -1) (k0 : s.kind = 0) (l : ¬ s.left = 0) (x : 8 * B.length < s.at_ + 8) : one B mo s = .error 2 := by unfold one; rw [if_neg h, if_neg k, if_neg (by omega), if_neg l, if_pos x]
theorem tV (h : ¬ 0 < s.aB) (k : ¬ s.kind = -1) (k0 : s.kind = 0) (l : ¬ s.left = 0) (x : s.at_ + 8 ≤ 8 * B.length) : one B mo s = eY mo { s with at_ := s.at_ + 8, left := s.left - 1 } (aT B s.at_ 8) := by unfold one; rw [if_neg h, if_neg k, if_neg (by omega), if_neg l, if_neg (by omega)]
theorem one_le (h : ¬ 0 < s.aB) (k : ¬ s.kind = -1) (k0 : s.kind = 0) (l : ¬ s.left = 0) (x : s.at_ + 8 ≤ 8 * B.length) (p : eY mo { s with at_ := s.at_ + 8 } (aT B s.at_ 8) = .error e) : one B mo s = .error e := by
  rw [tV h k k0 l x]
  by_cases q : (s.out.length : Int) < mo
  · rw [mT (s := { s with at_ := s.at_ + 8 }) q] at p; cases p
  · rw [mX (s := { s with at_ := s.at_ + 8 }) q] at p; rw [← p]; exact mX q
theorem CN (h : ¬ 0 < s.aB) (k : ¬ s.kind = -1) (k0 : s.kind = 0) (l : ¬ s.left = 0) (x : s.at_ + 8 ≤ 8 * B.length) (q : (s.out.length : Int) < mo) : one B mo s = .ok { s with at_ := s.at_ + 8, left := s.left - 1, out := s.out ++ [aT B s.at_ 8] } := by
  rw [tV h k k0 l x]; exact mT q
end
end Go.ab
namespace Go.ab
open Go.aj Go.af
theorem Fh : ga.length = 288 := by decide +kernel
theorem ER : lB.length = 32 := by decide +kernel
def mu (B : List Int) (s : St) : Nat := (8 * B.length - s.at_) * 1000 + s.aB + (if s.kind = -1 then 0 else 1)
theorem FZ {B : List Int} {s : St} (h : s.kind = -1) : mu B s = (8 * B.length - s.at_) * 1000 + s.aB := by unfold mu; rw [if_pos h, Nat.add_zero]
theorem LN {B : List Int} {s : St} (h : ¬ s.kind = -1) : mu B s = (8 * B.length - s.at_) * 1000 + s.aB + 1 := by unfold mu; rw [if_neg h]
theorem o4 (B : List Int) (s : St) : mu B s ≤ (8 * B.length - s.at_) * 1000 + s.aB + 1 := by unfold mu; split <;> omega
theorem IJ {l : List Int} {y : Int} (h : au l) (hy : 0 ≤ y ∧ y < 256) : au (l ++ [y]) := by
  intro x hx
  rcases List.mem_append.1 hx with hx | hx
  · exact h x hx
  · rw [List.mem_singleton.1 hx]; exact hy
structure Good (B : List Int) (mo : Int) (s s2 : St) : Prop where
  ok : Ok B mo s2
  less : mu B s2 < mu B s
  le : s.out.length ≤ s2.out.length
  one : s2.out.length ≤ s.out.length + 1
theorem r4 {B : List Int} {mo : Int} {s s1 s2 : St} {y : Int} (hy : 0 ≤ y ∧ y < 256) (h : eY mo s1 y = .ok s2) (ho : s1.out = s.out) (hok : Ok B mo s1) (hl : mu B s1 < mu B s) (hf : s1.aB = 0 ∨ True) : Good B mo s s2 := by
  obtain ⟨k, rfl⟩ := qS h
  refine ⟨⟨hok.at_, by simp; omega, IJ hok.s7 hy, hok.kind, hok.left, hok.Gw, hok.aB, fun h => ?_⟩, hl, by simp [ho], by simp [ho]⟩
  have := hok.cE h
  simp; omega
theorem lW {B : List Int} {mo : Int} {s s2 : St} (hB : au B) (hok : Ok B mo s) (h : one B mo s = .ok s2) : Good B mo s s2 := by
  obtain ⟨q1, q2, q3, q4, q5, q6, q7, q8⟩ := hok
  by_cases hc : 0 < s.aB
  · have he : eY mo { s with aB := s.aB - 1 } (s.out.getD (s.out.length - s.cE) 0) = .ok s2 := by unfold one at h; rw [if_pos hc] at h; exact h
    refine r4 (q3.get _) he rfl ⟨q1, q2, q3, q4, q5, q6, by show s.aB - 1 < 400; omega, fun _ => q8 hc⟩ ?_ (.inr trivial)
    show (8 * B.length - s.at_) * 1000 + (s.aB - 1) + (if s.kind = -1 then 0 else 1) < (8 * B.length - s.at_) * 1000 + s.aB + (if s.kind = -1 then 0 else 1)
    omega
  by_cases hk : s.kind = -1
  · rw [tO hc hk] at h
    by_cases h1 : 8 * B.length < s.at_ + 3
    · rw [Ba h1] at h; cases h
    have hx1 : s.at_ + 3 ≤ 8 * B.length := by omega
    have hm := FZ (B := B) hk
    by_cases k0 : aT B (s.at_ + 1) 2 = 0
    · by_cases hx : 8 * B.length < dN (s.at_ + 3) + 32
      · rw [wo hx1 k0 hx] at h; cases h
      · by_cases hn : aT B (dN (s.at_ + 3)) 16 = 65535 - aT B (dN (s.at_ + 3) + 16) 16
        · rw [xv hx1 k0 (by omega) hn] at h; cases h
          have hb := cH B (dN (s.at_ + 3)) 16
          have ha := yn (s.at_ + 3)
          refine ⟨⟨by show dN (s.at_ + 3) + 32 ≤ _; omega, q2, q3, .inr (.inl rfl), by show (aT B (dN (s.at_ + 3)) 16).toNat < 65536; omega, fun h => absurd h (by show ¬ (0 : Int) < 0; omega), q7, q8⟩, ?_, Nat.le_refl _, Nat.le_succ _⟩
          refine Nat.lt_of_le_of_lt (o4 B _) ?_
          rw [hm]
          show (8 * B.length - (dN (s.at_ + 3) + 32)) * 1000 + s.aB + 1 < _
          omega
        · rw [CM hx1 k0 (by omega) hn] at h; cases h
    · by_cases k1 : aT B (s.at_ + 1) 2 = 1
      · rw [F7 hx1 k1] at h; cases h
        refine ⟨⟨hx1, q2, q3, .inr (.inr (.inl rfl)), q5, fun _ => ⟨zi, yF, by show 0 < ga.length; rw [Fh]; decide, by show 0 < lB.length; rw [ER]; decide⟩, q7, q8⟩, ?_, Nat.le_refl _, Nat.le_succ _⟩
        refine Nat.lt_of_le_of_lt (o4 B _) ?_
        rw [hm]
        show (8 * B.length - (s.at_ + 3)) * 1000 + s.aB + 1 < _
        omega
      · by_cases k2 : aT B (s.at_ + 1) 2 = 2
        · rcases gI (told B (s.at_ + 3)) with ⟨e, ht⟩ | ⟨⟨a, l, d⟩, ht⟩
          · rw [BX hx1 k2 ht] at h; cases h
          · rw [Cr hx1 k2 ht] at h; cases h
            obtain ⟨t1, t2, t3, t4, t5, t6⟩ := C0 ht
            refine ⟨⟨t6, q2, q3, .inr (.inr (.inr rfl)), q5, fun _ => ⟨t1, t2, t3, t4⟩, q7, q8⟩, ?_, Nat.le_refl _, Nat.le_succ _⟩
            refine Nat.lt_of_le_of_lt (o4 B _) ?_
            rw [hm]
            show (8 * B.length - a) * 1000 + s.aB + 1 < _
            omega
        · rw [BR hx1 k0 k1 k2] at h; cases h
  have hm := LN (B := B) hk
  by_cases hk0 : s.kind = 0
  · by_cases hl : s.left = 0
    · rw [th hc hk hk0 hl] at h; cases h
      refine ⟨⟨q1, q2, q3, .inl rfl, q5, fun h => absurd h (by show ¬ (0 : Int) < -1; omega), q7, q8⟩, ?_, Nat.le_refl _, Nat.le_succ _⟩
      rw [hm, FZ rfl]
      show (8 * B.length - s.at_) * 1000 + s.aB < _
      omega
    · by_cases hx : 8 * B.length < s.at_ + 8
      · rw [w7 hc hk hk0 hl hx] at h; cases h
      · rw [tV hc hk hk0 hl (by omega)] at h
        have hb := cH B s.at_ 8
        refine r4 (by omega) h rfl ⟨by show s.at_ + 8 ≤ _; omega, q2, q3, q4, by show s.left - 1 < 65536; omega, q6, q7, q8⟩ ?_ (.inr trivial)
        refine Nat.lt_of_le_of_lt (o4 B _) ?_
        rw [hm]
        show (8 * B.length - (s.at_ + 8)) * 1000 + s.aB + 1 < _
        omega
  · rw [vO hc hk hk0] at h
    have hkp : 0 < s.kind := by omega
    obtain ⟨e1, e2, z1, z2⟩ := q6 hkp
    rcases xH (B := B) (a := s.at_) e1 z1 with ⟨e, hs⟩ | ⟨y, a1, hs, y0, y1, a0, ha1⟩
    · rw [vV hs] at h; cases h
    by_cases hy : y < 256
    · rw [od hs hy] at h
      refine r4 (by omega) h rfl ⟨ha1, q2, q3, q4, q5, q6, q7, q8⟩ ?_ (.inr trivial)
      refine Nat.lt_of_le_of_lt (o4 B _) ?_
      rw [hm]
      show (8 * B.length - a1) * 1000 + s.aB + 1 < _
      omega
    by_cases hy2 : y = 256
    · rw [ru hs hy2] at h; cases h
      refine ⟨⟨ha1, q2, q3, .inl rfl, q5, fun h => absurd h (by show ¬ (0 : Int) < -1; omega), q7, q8⟩, ?_, Nat.le_refl _, Nat.le_succ _⟩
      refine Nat.lt_of_le_of_lt (o4 B _) ?_
      rw [hm]
      show (8 * B.length - a1) * 1000 + s.aB + 1 < _
      omega
    rcases Bm (B := B) (s := y - 257) (a := a1) (by omega) ha1 with ⟨e, hn⟩ | ⟨n, a2, hn, n0, n1, n2, n3⟩
    · rw [vH hs (by omega) hn] at h; cases h
    rcases y9 (B := B) (a := a2) e2 z2 with ⟨e, hf⟩ | ⟨f, a3, hf, f0, f1, f2, f3⟩
    · rw [vT hs (by omega) hn hf] at h; cases h
    by_cases hfo : f ≤ s.out.length
    · rw [vM hs (by omega) hn hf (by omega)] at h; cases h
      refine ⟨⟨f3, q2, q3, q4, q5, q6, by show ((n : Int)).toNat < 400; omega, fun _ => by show 1 ≤ ((f : Int)).toNat ∧ ((f : Int)).toNat ≤ s.out.length; omega⟩, ?_, Nat.le_refl _, Nat.le_succ _⟩
      refine Nat.lt_of_le_of_lt (o4 B _) ?_
      rw [hm]
      show (8 * B.length - a3) * 1000 + ((n : Int)).toNat + 1 < _
      omega
    · rw [vI hs (by omega) hn hf (by omega)] at h; cases h
inductive Lp (B : List Int) (mo : Int) (w : Nat) (n : Int) : St → Except Int St → Prop
  | stop {s : St} : (s.ended = true ∨ n ≤ (s.out.length : Int) - w) → Lp B mo w n s (.ok s)
  | step {s s' : St} {o : Except Int St} : s.ended = false → (s.out.length : Int) - w < n → one B mo s = .ok s' → Lp B mo w n s' o → Lp B mo w n s o
  | fail {s : St} {e : Int} : s.ended = false → (s.out.length : Int) - w < n → one B mo s = .error e → Lp B mo w n s (.error e)
theorem OK {B : List Int} {mo : Int} (hB : au B) (w : Nat) (n : Int) : ∀ (k : Nat) {s : St}, mu B s ≤ k → Ok B mo s → ∃ o, Lp B mo w n s o := by
  intro k
  induction k with
  | zero =>
    intro s hk hok
    by_cases h1 : s.ended = true
    · exact ⟨_, .stop (.inl h1)⟩
    by_cases h2 : n ≤ (s.out.length : Int) - w
    · exact ⟨_, .stop (.inr h2)⟩
    rcases gI (one B mo s) with ⟨e, h⟩ | ⟨s2, h⟩
    · exact ⟨_, .fail (by simpa using h1) (by omega) h⟩
    · have := (lW hB hok h).less; omega
  | succ k ih =>
    intro s hk hok
    by_cases h1 : s.ended = true
    · exact ⟨_, .stop (.inl h1)⟩
    by_cases h2 : n ≤ (s.out.length : Int) - w
    · exact ⟨_, .stop (.inr h2)⟩
    rcases gI (one B mo s) with ⟨e, h⟩ | ⟨s2, h⟩
    · exact ⟨_, .fail (by simpa using h1) (by omega) h⟩
    · have hg := lW hB hok h
      have := hg.less
      obtain ⟨o, ho⟩ := ih (show mu B s2 ≤ k by omega) hg.ok
      exact ⟨o, .step (by simpa using h1) (by omega) h ho⟩
theorem Je {B : List Int} {mo : Int} {w : Nat} {n : Int} {s : St} {o : Except Int St} (hB : au B) (h : Lp B mo w n s o) : Ok B mo s → (∀ s2, o = .ok s2 → Ok B mo s2 ∧ mu B s2 ≤ mu B s ∧ iA B mo s s2 ∧ (s2.ended = true ∨ n ≤ (s2.out.length : Int) - w) ∧ (s.ended = false → (s.out.length : Int) - w < n → mu B s2 < mu B s) ∧ s.out.length ≤ s2.out.length) ∧ (∀ e, o = .error e → j9 B mo s (.error e)) := by
  induction h with
  | stop h => intro hok; exact ⟨fun s2 e => by cases e; exact ⟨hok, Nat.le_refl _, .refl _ _ _, h, fun h1 h2 => by rcases h with h | h; (rw [h1] at h; cases h); omega, Nat.le_refl _⟩, fun e h => by cases h⟩
  | step h1 h2 h3 h4 ih =>
    intro hok
    have hg := lW hB hok h3
    have hl := hg.less
    have hle := hg.le
    obtain ⟨k1, k2⟩ := ih hg.ok
    refine ⟨fun s2 e => ?_, fun e h => .step h1 h3 (k2 e h)⟩
    obtain ⟨m1, m2, m3, m4, m5, m6⟩ := k1 s2 e
    exact ⟨m1, by omega, (iA.one h1 h3).trans m3, m4, fun _ _ => by omega, by omega⟩
  | fail h1 h2 h3 => intro hok; exact ⟨fun s2 e => (by cases e), fun e h => by cases h; exact .fail h1 h3⟩
abbrev Jt := Except Int St
def kK : Jt → Bool
  | .ok s => s.ended
  | .error _ => true
def qb : Jt → List Int
  | .ok s => if s.ended = true then s.out else []
  | .error _ => []
def Ar : Jt → Int
  | .ok _ => 0
  | .error e => e
def rp : Jt → Int
  | .ok s => if s.ended = true then ((s.at_ + 7) / 8 : Nat) else 0
  | .error _ => 0
def vo (B : List Int) (mo : Int) : Jt → Prop
  | .ok s => Ok B mo s
  | .error e => e ≠ 0
def AM (B : List Int) (mo n : Int) (r r' : Jt) : Prop := ((n < 1 ∨ kK r = true) ∧ r' = r) ∨ (1 ≤ n ∧ ∃ s, r = .ok s ∧ s.ended = false ∧ Lp B mo s.out.length n s r')
def C7 (B : List Int) (mo : Int) (s0 : St) : Jt → Prop
  | .ok s => iA B mo s0 s
  | .error e => j9 B mo s0 (.error e)
def Ou : Oc → List Int × Int × Int
  | .ok (x, n) => (x, (n : Int), 0)
  | .error e => ([], 0, e)
theorem pc {B : List Int} {mo : Int} (h : 0 ≤ mo) : Ok B mo start := ⟨Nat.zero_le _, by show ((0 : Nat) : Int) ≤ mo; omega, fun x hx => (by cases hx), .inl rfl, by decide, fun h => absurd h (by decide), by decide, fun h => absurd h (by decide)⟩
end Go.ab
namespace Go.ab
section
variable {B : List Int} {mo n e : Int} {w : Nat} {s s2 : St} {o : Except Int St}
theorem Gl (h : Lp B mo w n s o) (k : s.ended = true ∨ n ≤ (s.out.length : Int) - w) : o = .ok s := by
  cases h with
  | stop _ => rfl
  | step h1 h2 => exfalso; rcases k with k | k; (rw [h1] at k; cases k); omega
  | fail h1 h2 => exfalso; rcases k with k | k; (rw [h1] at k; cases k); omega
theorem Oe (h : Lp B mo w n s o) (k1 : s.ended = false) (k2 : (s.out.length : Int) - w < n) (p : one B mo s = .ok s2) : Lp B mo w n s2 o := by
  cases h with
  | stop h => exfalso; rcases h with k | k; (rw [k1] at k; cases k); omega
  | step _ _ h3 h4 => rw [h3] at p; cases p; exact h4
  | fail _ _ h3 => rw [h3] at p; cases p
theorem OA (h : Lp B mo w n s o) (k1 : s.ended = false) (k2 : (s.out.length : Int) - w < n) (p : one B mo s = .error e) : o = .error e := by
  cases h with
  | stop h => exfalso; rcases h with k | k; (rw [k1] at k; cases k); omega
  | step _ _ h3 h4 => rw [h3] at p; cases p
  | fail _ _ h3 => rw [h3] at p; cases p; rfl
end
end Go.ab
namespace Go.ab
open Go.aj Go.af
section
variable {B : List Int} {mo e : Int}
theorem xn {ls : List Int} {a : Nat} (h : sym ls B a = .error e) : e ≠ 0 := by
  unfold sym at h; split at h <;> cases h <;> decide
theorem Ng {l : List Int} {s : Int} {a : Nat} (h : rep B s l a = .error e) : e ≠ 0 := by
  unfold rep at h
  split at h
  · cases h
  split at h
  · cases h; decide
  split at h
  · cases h; decide
  · cases h
theorem IG {c : List Int} {tot : Nat} : ∀ {f : Nat} {l : List Int} {a : Nat}, fF B c tot f l a = .error e → e ≠ 0 := by
  intro f
  induction f with
  | zero => intro l a h; cases h
  | succ f ih =>
    intro l a h
    simp only [fF] at h
    split at h
    · rcases Ag B c l a with ⟨e2, hs⟩ | ⟨sy, x2, e2, hs, hr⟩ | ⟨sy, x2, v, n, x3, hs, hr⟩
      · rw [r5 hs] at h; cases h; exact xn hs
      · rw [so hs hr] at h; cases h; exact Ng hr
      · rw [nf hs hr] at h
        simp only at h
        split at h
        · exact ih h
        · cases h; decide
    · cases h
theorem Ih {a : Nat} (h : told B a = .error e) : e ≠ 0 := by
  unfold told at h
  split at h
  · cases h; decide
  split at h
  · cases h; decide
  split at h
  · cases h; decide
  split at h
  · cases h; decide
  split at h
  · rename_i e2 h2; cases h; exact IG h2
  · split at h
    · cases h; decide
    · cases h
theorem wP {s : St} {y : Int} (h : eY mo s y = .error e) : e ≠ 0 := by
  unfold eY at h; split at h <;> cases h; decide
theorem KE {s : Int} {a : Nat} (h : fw B s a = .error e) : e ≠ 0 := by
  unfold fw at h
  split at h
  · cases h; decide
  split at h
  · cases h; decide
  · cases h
theorem Jf {ds : List Int} {a : Nat} (h : eI B ds a = .error e) : e ≠ 0 := by
  unfold eI at h
  split at h
  · rename_i e2 h2; cases h; exact xn h2
  · split at h
    · cases h; decide
    split at h
    · cases h; decide
    · cases h
theorem EX {s : St} (h : dT B s = .error e) : e ≠ 0 := by
  unfold dT at h
  split at h
  · cases h; decide
  split at h
  · split at h
    · cases h; decide
    split at h
    · cases h
    · cases h; decide
  split at h
  · cases h
  split at h
  · split at h
    · rename_i e2 h2; cases h; exact Ih h2
    · cases h
  · cases h; decide
theorem FJ {s : St} (h : fa B mo s = .error e) : e ≠ 0 := by
  rcases gI (sym s.lits B s.at_) with ⟨e2, hs⟩ | ⟨⟨y, a⟩, hs⟩
  · rw [vV hs] at h; cases h; exact xn hs
  by_cases h1 : y < 256
  · rw [od hs h1] at h; exact wP h
  by_cases h2 : y = 256
  · rw [ru hs h2] at h; cases h
  rcases gI (fw B (y - 257) a) with ⟨e2, hn⟩ | ⟨⟨n, a2⟩, hn⟩
  · rw [vH hs (by omega) hn] at h; cases h; exact KE hn
  rcases gI (eI B s.eO a2) with ⟨e2, hf⟩ | ⟨⟨f, a3⟩, hf⟩
  · rw [vT hs (by omega) hn hf] at h; cases h; exact Jf hf
  by_cases h3 : f ≤ s.out.length
  · rw [vM hs (by omega) hn hf h3] at h; cases h
  · rw [vI hs (by omega) hn hf h3] at h; cases h; decide
theorem CS {s : St} (h : one B mo s = .error e) : e ≠ 0 := by
  unfold one at h
  split at h
  · exact wP h
  split at h
  · exact EX h
  split at h
  · exact FJ h
  split at h
  · cases h
  split at h
  · cases h; decide
  · exact wP h
theorem Gk {s : St} {w : Nat} {n : Int} {o : Jt} (h : Lp B mo w n s o) : o = .error e → e ≠ 0 := by
  induction h with
  | stop _ => intro h; cases h
  | step _ _ _ _ ih => exact ih
  | fail _ _ h => intro q; cases q; exact CS h
theorem Jq {s : St} {o : Oc} (h : j9 B mo s o) : o = .error e → e ≠ 0 := by
  induction h with
  | done _ => intro h; cases h
  | step _ _ _ ih => exact ih
  | fail _ h => intro q; cases q; exact CS h
end
def DS (B : List Int) : Jt → Nat
  | .ok s => mu B s + 1
  | .error _ => 0
def A9 : Jt → Nat
  | .ok s => s.out.length
  | .error _ => 0
theorem Fm {B : List Int} {mo : Int} {r : Jt} (hB : au B) (hok : vo B mo r) (n : Int) : ∃ r', AM B mo n r r' := by
  by_cases hn : n < 1
  · exact ⟨r, .inl ⟨.inl hn, rfl⟩⟩
  cases r with
  | error e => exact ⟨_, .inl ⟨.inr rfl, rfl⟩⟩
  | ok s =>
    cases he : s.ended with
    | true => exact ⟨_, .inl ⟨.inr he, rfl⟩⟩
    | false =>
      obtain ⟨o, ho⟩ := OK hB s.out.length n _ (Nat.le_refl _) hok
      exact ⟨o, .inr ⟨by omega, s, rfl, he, ho⟩⟩
structure Oh (B : List Int) (mo : Int) (s0 : St) (n : Int) (r r' : Jt) : Prop where
  ok : vo B mo r'
  at_ : C7 B mo s0 r'
  le : DS B r' ≤ DS B r
  less : kK r = false → 1 ≤ n → DS B r' < DS B r
  out : kK r = false → 1 ≤ n → kK r' = true ∨ A9 r + 1 ≤ A9 r'
  stay : (n < 1 ∨ kK r = true) → r' = r
theorem AX {B : List Int} {mo n : Int} {s0 : St} {r r' : Jt} (hB : au B) (hok : vo B mo r) (hat : C7 B mo s0 r) (h : AM B mo n r r') : Oh B mo s0 n r r' := by
  rcases h with ⟨hx, rfl⟩ | ⟨hn, s, rfl, he, hl⟩
  · refine ⟨hok, hat, Nat.le_refl _, fun h1 h2 => ?_, fun h1 h2 => ?_, fun _ => rfl⟩ <;> (exfalso; rcases hx with hx | hx; omega; rw [h1] at hx; cases hx)
  · obtain ⟨k1, k2⟩ := Je hB hl hok
    cases r' with
    | ok s2 =>
      obtain ⟨m1, m2, m3, m4, m5, m6⟩ := k1 s2 rfl
      have := m5 he (by omega)
      refine ⟨m1, hat.trans m3, by show mu B s2 + 1 ≤ mu B s + 1; omega, fun _ _ => by show mu B s2 + 1 < mu B s + 1; omega, fun _ _ => ?_, fun hx => ?_⟩
      · rcases m4 with m4 | m4
        · exact .inl m4
        · right; show s.out.length + 1 ≤ s2.out.length; omega
      · exfalso; rcases hx with hx | hx
        · omega
        · rw [show kK (.ok s) = s.ended from rfl, he] at hx; cases hx
    | error e =>
      refine ⟨Gk hl rfl, hat _ (k2 e rfl), Nat.zero_le _, fun _ _ => Nat.succ_pos _, fun _ _ => .inl rfl, fun hx => ?_⟩
      exfalso; rcases hx with hx | hx
      · omega
      · rw [show kK (.ok s) = s.ended from rfl, he] at hx; cases hx
def jW (B : List Int) (mo : Int) (q : List Int × Int × Int) : Prop := (mo < 0 ∧ q = ([], 0, 1)) ∨ (0 ≤ mo ∧ ∃ o, j9 B mo start o ∧ q = Ou o)
theorem jW.CI {B : List Int} {mo : Int} {q q' : List Int × Int × Int} (h : jW B mo q) (h' : jW B mo q') : q = q' := by
  rcases h with ⟨a, rfl⟩ | ⟨a, o, r, rfl⟩ <;> rcases h' with ⟨a', rfl⟩ | ⟨a', o', r', rfl⟩
  · rfl
  · omega
  · omega
  · rw [r.CI r']
theorem HH {B : List Int} {mo : Int} {r : Jt} (hm : 0 ≤ mo) (h : C7 B mo start r) (he : kK r = true) : jW B mo (qb r, rp r, Ar r) := by
  refine .inr ⟨hm, ?_⟩
  cases r with
  | ok s => exact ⟨.ok (s.out, (s.at_ + 7) / 8), h _ (.done he), by simp only [qb, rp, Ar, Ou]; rw [if_pos (show s.ended = true from he), if_pos (show s.ended = true from he)]⟩
  | error e => exact ⟨.error e, h, rfl⟩
theorem C6 {B : List Int} {mo : Int} (hB : au B) {s : St} {o : Oc} (h : j9 B mo s o) : Ok B mo s → ∀ x n, o = .ok (x, n) → (x.length : Int) ≤ mo ∧ n ≤ B.length ∧ au x := by
  induction h with
  | done h => intro hok x n e; cases e; exact ⟨hok.room, by have := hok.at_; omega, hok.s7⟩
  | step h1 h2 h3 ih => intro hok; exact ih (lW hB hok h2).ok
  | fail _ _ => intro _ x n e; cases e
end Go.ab
namespace Go.ab
open Go.aj Go.af
def Sk (mo : Int) : Jt := if mo < 0 then .error 1 else .ok start
structure Way (B : List Int) (mo : Int) (r : Jt) : Prop where
  ok : vo B mo r
  at_ : (0 ≤ mo ∧ C7 B mo start r) ∨ (mo < 0 ∧ r = .error 1)
structure Sj (B : List Int) (mo n : Int) (r r' : Jt) : Prop where
  SI : Way B mo r'
  out : kK r = false → 1 ≤ n → kK r' = true ∨ A9 r + 1 ≤ A9 r'
  stay : (n < 1 ∨ kK r = true) → r' = r
end Go.ab
namespace Go.ab
open Go.aj Go.af
end Go.ab
namespace Go.ab
open Go.aj Go.af
def R5 : List Int := [3, 4, 5, 6, 7, 8, 9, 10, 11, 13, 15, 17, 19, 23, 27, 31, 35, 43, 51, 59, 67, 83, 99, 115, 131, 163, 195, 227, 258]
def R3 : List Int := [0, 0, 0, 0, 0, 0, 0, 0, 1, 1, 1, 1, 2, 2, 2, 2, 3, 3, 3, 3, 4, 4, 4, 4, 5, 5, 5, 5, 0]
structure Dn (B : List Int) (mo : Int) (S S' : St) : Prop where
  AD : iA B mo S S'
  ok : Ok B mo S'
  kind : S'.kind = -1
  aB : S'.aB = 0
  ended : S'.ended = S'.last
  last : S'.last = S.last
structure In (B : List Int) (mo : Int) (S s : St) : Prop where
  AD : iA B mo S s
  ok : Ok B mo s
  kind : s.kind = S.kind
  aB : s.aB = 0
  ended : s.ended = false
  last : s.last = S.last
  lits : s.lits = S.lits
  eO : s.eO = S.eO
section
variable {B : List Int} {mo e : Int} {S s s2 : St}
end
end Go.ab
namespace Go.ab
open Go.aj Go.af
inductive Bl (B : List Int) (mo : Int) : St → Except Int St → Prop
  | done {s : St} : s.kind = -1 → Bl B mo s (.ok s)
  | step {s s' : St} {o : Except Int St} : ¬ s.kind = -1 → one B mo s = .ok s' → Bl B mo s' o → Bl B mo s o
  | fail {s : St} {e : Int} : ¬ s.kind = -1 → one B mo s = .error e → Bl B mo s (.error e)
section
variable {B : List Int} {mo e : Int} {s s2 : St} {o : Except Int St}
structure Left (B : List Int) (mo : Int) (s s2 : St) : Prop where
  AD : iA B mo s s2
  ok : Ok B mo s2
  kind : s2.kind = -1
  aB : s2.aB = 0
  ended : s2.ended = s2.last
  last : s2.last = s.last
  less : mu B s2 ≤ mu B s
end
def BO (B : List Int) (mo : Int) (S : St) (o : Except Int St) : Prop := (∃ e, dT B S = .error e ∧ o = .error e) ∨ (∃ S1, dT B S = .ok S1 ∧ Bl B mo S1 o)
section
variable {B : List Int} {mo e : Int} {S S1 : St} {o : Except Int St}
end
section
variable {B ds : List Int} {s d : Int} {a a3 n : Nat}
end
end Go.ab
namespace Go.ab
end Go.ab
namespace Go.ab
end Go.ab
namespace Go.ab
open Go.aj
end Go.ab
namespace Go.ab
open Go.aj Go.af
def run (B : List Int) (mo : Int) : Nat → St → Option Oc
  | 0, _ => none
  | f + 1, s => if s.ended = true then some (.ok (s.out, (s.at_ + 7) / 8)) else match one B mo s with
    | .error e => some (.error e)
    | .ok s' => run B mo f s'
def SC (B : List Int) (mo : Int) (f : Nat) (q : List Int × Int × Int) : Bool := match run B mo f start with
  | some o => decide (Ou o = q)
  | none => false
end Go.ab
namespace Go.ab
end Go.ab

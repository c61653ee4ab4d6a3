/- Walks of functions that the law reaches, and what they lean on; no conditions. -/
import Derived.Test.YtookicfejdbddaaGreatM15
import Derived.ChangeKeysEq
import Derived.Test.YtookicfejdbddaaGreatM6
import Derived.Lib.ConvBytes
import Derived.Test.YtookicfejdbddaaGreatM3
import Derived.Test.YtookicfejdbddaaGreatM2
set_option linter.unusedVariables false
set_option linter.unusedSimpArgs false
set_option linter.unnecessarySimpa false
set_option maxRecDepth 100000
namespace Go.Cr
open Go.Sl
theorem run_eqItems_int {P : Program} {w : World} {d : Nat} {e : TypeId} {k : IntKind} (hu : P.underlying e = some (.int k)) (hs : scalarB P e = true) (xs ys : Array Value) (f g : Nat → Int) : ∀ (is : List Nat),
    (∀ j ∈ is, xs[j]? = some (.int k (f j)) ∧ ys[j]? = some (.int k (g j))) → (Op.eqItems (d + 1) e 1 xs ys is).run P w = .ok (is.all fun j => decide (f j = g j)) w
  | [], _ => by simp [Op.eqItems]
  | j :: is, h => by
    obtain ⟨h1, h2⟩ := h j List.mem_cons_self
    have ih := run_eqItems_int (d := d) (w := w) hu hs xs ys f g is (fun q hq => h q (List.mem_cons_of_mem _ hq))
    have e1 : (part e xs (j * 1)).run P w = .ok (.int k (f j)) w := by simp [part, run_isAgg_scalar hs, h1]
    have e2 : (part e ys (j * 1)).run P w = .ok (.int k (g j)) w := by simp [part, run_isAgg_scalar hs, h2]
    have e3 : (Op.equalIn (d + 1) e (.int k (f j)) (.int k (g j))).run P w = .ok (decide (f j = g j)) w := by
      simp [Op.equalIn, run_underlying hu]
      rw [Bool.eq_iff_iff]; simp
    simp only [Op.eqItems, Sem.run_bind, e1, e2, e3, Result.andThen_ok, List.all_cons]
    cases hd : decide (f j = g j) with
    | true => simp [ih]
    | false => simp
section
variable {C : Ctx} {ty : TypeId} {E : Env} {ρ : Ren} {s s' : St} {v : SV} {V : Value} {F : List HProp} {e : En}
theorem v_eqA {t t' : TypeId} {x y : Operand} {L : List HProp} {as bs : List Int} {n el : Nat} {k : IntKind} (ht : arrayB C.P t = some (n, el, 1)) (hu : C.P.underlying el = some (.int k)) (hs : scalarB C.P el = true) (hg : C.P.eqGuardType C.P.depth t = false)
    (hx : evalE E x = some (.agg (as.map (Value.int k)).toArray)) (hy : evalE E y = some (.agg (bs.map (Value.int k)).toArray)) (la : as.length = n) (lb : bs.length = n) :
    OpV C (.binOp .eql t x y t') ty E L (.bool (decide (as = bs))) L ∧ OpV C (.binOp .neq t x y t') ty E L (.bool (!(decide (as = bs)))) L := by
  obtain ⟨h1, i, h2, h3⟩ := array_spec ht
  have hc : C.P.cellsOf el = 1 := by simp [Program.cellsOf, h2, h3]
  have hrun : ∀ w, (Op.equalIn 10000 t (.agg (as.map (Value.int k)).toArray) (.agg (bs.map (Value.int k)).toArray)).run C.P w = .ok (decide (as = bs)) w := by
    intro w
    rw [show (10000 : Nat) = 9999 + 1 from rfl, run_equalIn_array w 9999 _ _ h1 h2, hc, show (9999 : Nat) = 9998 + 1 from rfl]
    rw [run_eqItems_int hu hs _ _ (fun j => as.getD j 0) (fun j => bs.getD j 0) (List.range n) (fun j hj => ?_)]
    · congr 1
      rw [Bool.eq_iff_iff, List.all_eq_true, decide_eq_true_eq]
      constructor
      · intro h
        apply List.ext_getElem (by omega)
        intro j j1 j2
        have := h j (List.mem_range.2 (by omega))
        rw [decide_eq_true_eq] at this
        simpa [List.getD_eq_getElem?_getD, j1, j2] using this
      · rintro rfl j _
        simp
    · have hj := List.mem_range.1 hj
      have h4 : j < as.length := by omega
      have h5 : j < bs.length := by omega
      simp [List.getD_eq_getElem?_getD, h4, h5]
  have hgd : ∀ (o : BinOp) w, (eqGuard o t x y (.agg (as.map (Value.int k)).toArray) (.agg (bs.map (Value.int k)).toArray)).run C.P w = .ok () w := by
    intro o w
    unfold eqGuard
    cases o <;> simp [hg]
  constructor
  · exact pureV fun d pos aft g a w ha => by
      rw [run_bin d pos aft g (ha.eval hx) (ha.eval hy) (hgd _ w)]
      simp only [binOp, Op.equal, Op.maxDepth, Sem.run_bind, hrun, Result.andThen_ok, Sem.run_pure]
  · exact pureV fun d pos aft g a w ha => by
      rw [run_bin d pos aft g (ha.eval hx) (ha.eval hy) (hgd _ w)]
      simp only [binOp, Op.equal, Op.maxDepth, Sem.run_bind, hrun, Result.andThen_ok, Sem.run_pure]
noncomputable def consK (k : IntKind) (ih : Option (List Int)) (v : SV) : Option (List Int) := match v with | .int j m => Bool.rec none (Option.rec none (fun t => some (m :: t)) ih) (eqK j k) | _ => none
noncomputable def intsK (k : IntKind) (l : List SV) : Option (List Int) := List.rec (some []) (fun v _ ih => consK k ih v) l
theorem intsK_ok {k : IntKind} : ∀ {l : List SV} {as : List Int}, intsK k l = some as → ∀ ρ, dens ρ l = some (as.map (Value.int k))
  | [], as, h, ρ => by cases h; rfl
  | v :: l, as, h, ρ => by
    change consK k (intsK k l) v = some as at h
    cases v
    case int j m =>
      have h : Bool.rec (motive := fun _ => Option (List Int)) none (Option.rec (motive := fun _ => Option (List Int)) none (fun t => some (m :: t)) (intsK k l)) (eqK j k) = some as := h
      cases hk : eqK j k with
      | false => rw [hk] at h; cases h
      | true =>
        rw [hk] at h
        obtain rfl := eqK_eq hk
        cases hl : intsK j l with
        | none => rw [hl] at h; cases h
        | some t =>
          rw [hl] at h
          cases h
          exact dens_mk rfl (intsK_ok hl ρ)
    all_goals cases h
def eqIL : List Int → List Int → Bool
  | [], [] => true
  | a :: l, b :: m => eqI a b && eqIL l m
  | _, _ => false
theorem eqIL_eq : ∀ (a b : List Int), eqIL a b = decide (a = b)
  | [], [] => by simp [eqIL]
  | a :: l, b :: m => by simp [eqIL, eqI_eq, eqIL_eq l m]
  | [], _ :: _ => by simp [eqIL]
  | _ :: _, [] => by simp [eqIL]
def kindI (P : Program) (t : Nat) : Option IntKind := match P.underlying t with | some (.int k) => some k | _ => none
theorem kindI_ok {P : Program} {t : Nat} {k : IntKind} (h : kindI P t = some k) : P.underlying t = some (.int k) := by
  unfold kindI at h
  split at h
  · rename_i h2; cases h; exact h2
  · cases h
noncomputable def arrE (neg : Bool) (P : Program) (t : Nat) (s : St) (l m : List SV) : R1 := wo (arrayB P t) fun z => wb (Nat.beq z.2.2 1) (wb (scalarB P z.2.1) (wb (not (P.eqGuardType P.depth t)) (wo (kindI P z.2.1) fun k => wo (intsK k l) fun as => wo (intsK k m) fun bs => wb (Nat.beq as.length z.1) (wb (Nat.beq bs.length z.1) (.ok (.bool (Bool.rec (eqIL as bs) (not (eqIL as bs)) neg)) s)))))
theorem arrE_ok {neg : Bool} {l m : List SV} {x y : Operand} {t t' : TypeId} {A B : Value} {L : List HProp} (h : arrE neg C.P t s l m = .ok v s') (hx : evalE E x = some A) (ha : den ρ (.agg l) = some A) (hy : evalE E y = some B) (hb : den ρ (.agg m) = some B) :
    s' = s ∧ ∃ V, den ρ v = some V ∧ OpV C (.binOp (Bool.rec .eql .neq neg) t x y t') ty E L V L := by
  obtain ⟨⟨n, el, sz⟩, h1, h⟩ := wo_ok h
  obtain ⟨h2, h⟩ := wb_ok h
  obtain ⟨h3, h⟩ := wb_ok h
  obtain ⟨h4, h⟩ := wb_ok h
  obtain ⟨k, h5, h⟩ := wo_ok h
  obtain ⟨as, h6, h⟩ := wo_ok h
  obtain ⟨bs, h7, h⟩ := wo_ok h
  obtain ⟨h8, h⟩ := wb_ok h
  obtain ⟨h9, h⟩ := wb_ok h
  cases h
  obtain rfl : sz = 1 := Nat.eq_of_beq_eq_true h2
  obtain ⟨us, a1, rfl⟩ := den_agg ha
  obtain ⟨ws, a2, rfl⟩ := den_agg hb
  rw [intsK_ok h6] at a1
  cases a1
  rw [intsK_ok h7] at a2
  cases a2
  have h4 : C.P.eqGuardType C.P.depth t = false := by simpa using h4
  have hh := v_eqA (C := C) (ty := ty) (t' := t') (L := L) h1 (kindI_ok h5) h3 h4 hx hy (Nat.eq_of_beq_eq_true h8) (Nat.eq_of_beq_eq_true h9)
  rw [← eqIL_eq] at hh
  refine ⟨rfl, ?_⟩
  cases neg
  · exact ⟨_, rfl, hh.1⟩
  · exact ⟨_, rfl, hh.2⟩
end
end Go.Cr
namespace Go.Sl
section
variable {C : Ctx} {Q : QT} {E : Env} {L F : List HProp} {ops : Array Oper} {rest : List Oper} {d : Nat} {ty : TypeId} {pos : String} {aft : Array Edge}
theorem x_convSR {x : Operand} {src dst T : TypeId} {l : List Int} (hs : C.P.underlying src = some .string) (hd : C.P.underlying dst = some (.slice T)) (he : C.P.underlying T = some (.int .u8)) (hx : evalE E x = some (.string (strOfNums l))) (hl : ∀ x ∈ l, 0 ≤ x ∧ x < 256) :
    OpX C (.convert src dst x) ty E L (fun v L' => ∃ b c, v = .slice (some ⟨b, 0, none⟩) l.length c ∧ L' = Row (ecI T .u8) (some ⟨b, 0, none⟩) l.length c l :: L) := by
  intro d pos aft g a w K Qx ha hi hK
  have hconv := Lib.run_convert_string_bytes (P := C.P) w src dst T (strOfNums l) hs hd he
  have hr : (execOp a.eval ⟨d, .convert src dst x, ty, pos, aft, g⟩).run C.P w = .ok (.value (.slice (some ⟨w.heap.size, 0, none⟩) (strOfNums l).size (grownCap w (strOfNums l).size 0 T))) (Lib.bytesWorld w T (strOfNums l)) := by
    simp only [execOp, ha.eval hx, Sem.run_bind, hconv, Result.andThen_ok, Sem.run_pure]
  unfold Oper.wp
  rw [hr]
  refine hK _ _ _ ⟨w.heap.size, grownCap w (strOfNums l).size 0 T, by rw [num_size], rfl⟩ ?_
  have e : (Lib.bytesCells w T (strOfNums l)).toList = l.map (Value.int .u8) ++ List.replicate (grownCap w (strOfNums l).size 0 T - (strOfNums l).size) (.int .u8 0) := by
    unfold Lib.bytesCells
    rw [Array.toList_append, Array.toList_map, Array.toList_replicate, num_map l hl]
  have h1 : Inv C.w0 (Cel w.heap.size T (Lib.bytesCells w T (strOfNums l)).toList :: L) (w.drew.alloc (.cells (Lib.bytesCells w T (strOfNums l)).toList.toArray T)) := by
    have := hi.drew.alloc T (Lib.bytesCells w T (strOfNums l)).toList
    simpa using this
  rw [Array.toArray_toList] at h1
  have hsz : (w.drew.alloc (.cells (Lib.bytesCells w T (strOfNums l)) T)).heap.size = w.heap.size + 1 := by simp
  have hp := h1.write (w' := Lib.bytesWorld w T (strOfNums l)) (cs' := (Lib.bytesCells w T (strOfNums l)).toList) (e' := true) rfl rfl rfl (by rw [Lib.bytesWorld_size, hsz]; exact Nat.le_refl _) (by rw [Lib.bytesWorld_at_new w T _]; simp [Mk]) (fun k hk hlt => by
    have hlt2 : k < w.heap.size := by omega
    rw [Lib.bytesWorld_at_old w T _ k hlt2]
    show w.heap[k]? = (w.heap.push _)[k]?
    rw [Array.getElem?_push, if_neg (by omega)])
  have hg := grownCap_ge w (strOfNums l).size 0 T
  rw [num_size] at hg
  refine hp.imp (fun h hh => ⟨rfl, .inr ⟨w.heap.size, 0, [], List.replicate (grownCap w (strOfNums l).size 0 T - (strOfNums l).size) (.int .u8 0), rfl, ?_, rfl, by rw [flat_len], by rw [List.length_replicate, num_size]; exact Nat.le_of_eq (Nat.mul_one _), by rw [num_size]; exact hg⟩⟩)
  rw [List.nil_append, show l.flatMap (ecI T .u8).e = l.map (Value.int .u8) from flat_u8 l, ← e]
  exact hh
theorem v_strIx {x y : Operand} {t : TypeId} {l : List Int} {k : IntKind} {i : Int} (n : Nat) (ht : C.P.underlying t = some .string) (hx : evalE E x = some (.string (strOfNums l))) (hy : evalE E y = some (.int k i)) (hl : ∀ x ∈ l, 0 ≤ x ∧ x < 256) (hi : i = (n : Int)) (hn : n < l.length) : OpV C (.index t x y) ty E L (.int .u8 (l.getD n 0)) L := pureV fun d pos aft g a w ha => by
  subst hi
  have hs : (strOfNums l)[n]? = some (UInt8.ofNat (l.getD n 0).toNat) := by
    have h1 : n < (strOfNums l).size := by rw [num_size]; exact hn
    rw [getElem?_pos (strOfNums l) n h1]
    congr 1
    simp [strOfNums, ByteArray.getElem_eq_getElem_data, hn]
  have hb : (((UInt8.ofNat (l.getD n 0).toNat).toNat : Nat) : Int) = l.getD n 0 := by
    have hm := hl (l.getD n 0) (by rw [List.getD_eq_getElem?_getD, List.getElem?_eq_getElem hn]; exact List.getElem_mem hn)
    rw [UInt8.toNat_ofNat', Nat.mod_eq_of_lt (by omega)]
    omega
  simp [execOp, ha.eval hx, ha.eval hy, Instr.index, asIntOf, run_underlying ht, hs]
  simpa using hb
end
end Go.Sl
namespace Go.Cr
open Go.Sl
theorem strV_nums (l : List Nat) : strV l = strOfNums (l.map Int.ofNat) := by
  unfold strV strOfNums
  rw [List.map_map]
  congr 2
theorem eqLN_eq : ∀ {a b : List Nat}, eqLN a b = true → a = b
  | [], [], _ => rfl
  | [], _ :: _, h => by cases h
  | _ :: _, [], h => by cases h
  | a :: l, b :: m, h => by
    unfold eqLN at h
    cases hb : Nat.beq a b with
    | false => rw [hb] at h; cases h
    | true => rw [hb] at h; rw [Nat.eq_of_beq_eq_true hb, eqLN_eq h]
theorem eqLN_self : ∀ (a : List Nat), eqLN a a = true
  | [] => rfl
  | a :: l => by unfold eqLN; rw [Nat.beq_refl]; exact eqLN_self l
def bytB (l : List Nat) : Bool := l.all fun n => Nat.blt n 256
theorem bytB_int {l : List Nat} (h : bytB l = true) : ∀ x ∈ l.map Int.ofNat, 0 ≤ x ∧ x < 256 := fun x hx => by
  obtain ⟨n, hn, rfl⟩ := List.mem_map.1 hx
  have h3 := blt_lt (List.all_eq_true.1 h n hn)
  have h4 : Int.ofNat n = (n : Int) := rfl
  omega
theorem str_eqB {a b : List Nat} (ha : bytB a = true) (hb : bytB b = true) : ((strV a).toList == (strV b).toList) = eqLN a b := by
  cases h : eqLN a b with
  | true => rw [eqLN_eq h]; simp
  | false =>
    rw [strV_nums, strV_nums]
    refine ba_ne (bytB_int ha) (bytB_int hb) (fun e => ?_)
    have inj : ∀ (a b : List Nat), a.map Int.ofNat = b.map Int.ofNat → a = b := by
      intro a
      induction a with
      | nil => intro b e; cases b with
        | nil => rfl
        | cons _ _ => cases e
      | cons x a ih => intro b e; cases b with
        | nil => cases e
        | cons y b => obtain ⟨h1, h2⟩ := List.cons.inj e; rw [Int.ofNat.inj h1, ih b h2]
    have := inj a b e
    subst this
    rw [eqLN_self] at h
    cases h
section
variable {C : Ctx} {ty : TypeId} {E : Env} {ρ : Ren} {s s' : St} {v : SV} {V : Value} {F : List HProp} {e : En}
def isNilC (y : Operand) : Bool := match y with | .const .nilIface => true | _ => false
def eqT (P : Program) (W : EqW) (t : Nat) (y : Operand) : Bool := match W with
  | .num => true
  | .str => true
  | .bool => (match P.underlying t with | some .bool => true | _ => false)
  | .ptr => (match P.underlying t with | some (.pointer _) => true | _ => false)
  | .sli => (match P.underlying t with | some (.slice _) => true | _ => false)
  | .fn => funcB P t
  | .ifc => (match P.underlying t with | some (.interface _) => isNilC y | _ => false)
  | .no => false
def strs (a b : SV) : Bool := match a with | .str l => (match b with | .str m => bytB l && bytB m | _ => true) | _ => true
noncomputable def eqV (neg : Bool) (P : Program) (t : Nat) (y : Operand) (s : St) (a b : SV) : R1 := wb (eqT P (eqSV a b).1 t y) (wb (strs a b) (.ok (.bool (Bool.rec (eqSV a b).2 (not (eqSV a b).2) neg)) s))
theorem eqV_ok {a b : SV} {x y : Operand} {t t' : TypeId} {A B : Value} {L : List HProp} (h1 : eqT C.P (eqSV a b).1 t y = true) (h2 : strs a b = true) (hx : evalE E x = some A) (ha : den ρ a = some A) (hy : evalE E y = some B) (hb : den ρ b = some B) :
    OpV C (.binOp .eql t x y t') ty E L (.bool (eqSV a b).2) L ∧ OpV C (.binOp .neq t x y t') ty E L (.bool (!(eqSV a b).2)) L := by
  unfold eqSV at h1 ⊢
  split at h1
  · rename_i k m j n
    cases hk : eqK k j with
    | false => rw [hk] at h1; cases h1
    | true =>
      obtain rfl := eqK_eq hk
      cases ha
      cases hb
      show OpV C _ ty E L (.bool (eqI m n)) L ∧ OpV C _ ty E L (.bool (!(eqI m n))) L
      rw [eqI_eq]
      refine ⟨v_eql hx hy, ?_⟩
      rw [← decide_not]
      exact v_neq hx hy
  · rename_i a b
    cases ha
    cases hb
    have ht : C.P.underlying t = some .bool := by
      unfold eqT at h1
      dsimp only at h1
      split at h1
      · assumption
      · cases h1
    exact ⟨v_eqb ht hx hy, v_neb ht hx hy⟩
  · rename_i a b
    cases ha
    cases hb
    unfold strs at h2
    simp only [Bool.and_eq_true] at h2
    exact ⟨s_eq hx hy (str_eqB h2.1 h2.2), s_ne hx hy (str_eqB h2.1 h2.2)⟩
  · obtain ⟨z, _, rfl⟩ := den_ptr ha
    cases hb
    unfold eqT at h1
    dsimp only at h1
    split at h1
    · rename_i el hel; exact ⟨v_eqnil hel hx hy, v_nenil hel hx hy⟩
    · cases h1
  · cases ha
    cases hb
    unfold eqT at h1
    dsimp only at h1
    split at h1
    · rename_i el hel; exact ⟨v_eqnil hel hx hy, v_nenil hel hx hy⟩
    · cases h1
  · obtain ⟨z, _, rfl⟩ := den_sli ha
    cases hb
    unfold eqT at h1
    dsimp only at h1
    split at h1
    · rename_i el hel; exact ⟨v_eqnilS hel hx hy, v_nenilS hel hx hy⟩
    · cases h1
  · cases ha
    cases hb
    unfold eqT at h1
    dsimp only at h1
    split at h1
    · rename_i el hel; exact ⟨v_eqnilS hel hx hy, v_nenilS hel hx hy⟩
    · cases h1
  · obtain ⟨z, _, rfl⟩ := den_fn ha
    cases hb
    exact ⟨v_eqnilF h1 hx hy, v_nenilF h1 hx hy⟩
  · obtain ⟨z, _, rfl⟩ := den_ifc ha
    cases hb
    unfold eqT at h1
    dsimp only at h1
    split at h1
    · rename_i ms hms
      unfold isNilC at h1
      split at h1
      · exact v_ifcnil false hms hx (.inr ⟨_, _, rfl, rfl⟩)
      · cases h1
    · cases h1
  · cases ha
    cases hb
    unfold eqT at h1
    dsimp only at h1
    split at h1
    · rename_i ms hms
      unfold isNilC at h1
      split at h1
      · exact v_ifcnil true hms hx (.inl ⟨rfl, rfl⟩)
      · cases h1
    · cases h1
  · cases h1
noncomputable def eqW (neg : Bool) (P : Program) (t : Nat) (y : Operand) (s : St) (a b : SV) : R1 := match a with
  | .agg l => (match b with | .agg m => arrE neg P t s l m | _ => .no)
  | _ => eqV neg P t y s a b
theorem eqW_ok {neg : Bool} {a b : SV} {x y : Operand} {t t' : TypeId} {A B : Value} {L : List HProp} (h : eqW neg C.P t y s a b = .ok v s') (hx : evalE E x = some A) (ha : den ρ a = some A) (hy : evalE E y = some B) (hb : den ρ b = some B) :
    s' = s ∧ ∃ V, den ρ v = some V ∧ OpV C (.binOp (Bool.rec .eql .neq neg) t x y t') ty E L V L := by
  unfold eqW at h
  split at h
  · split at h
    · exact arrE_ok h hx ha hy hb
    · cases h
  · obtain ⟨k1, h⟩ := wb_ok h
    obtain ⟨k2, h⟩ := wb_ok h
    cases h
    refine ⟨rfl, ?_⟩
    cases neg
    · exact ⟨_, rfl, (eqV_ok k1 k2 hx ha hy hb).1⟩
    · exact ⟨_, rfl, (eqV_ok k1 k2 hx ha hy hb).2⟩
noncomputable def binV (o : BinOp) (P : Program) (t : Nat) (y : Operand) (s : St) (a b : SV) : R1 := match o with
  | .eql => eqW false P t y s a b
  | .neq => eqW true P t y s a b
  | o => wo (numB o a b) fun v => force v fun v => .ok v s
noncomputable def oBin (o : BinOp) (t : Nat) (x y : Operand) (_ : Nat) : Fo := fun P _ e s => w1 x e fun a => w1 y e fun b => binV o P t y s a b
theorem oBin_ok {call : Cl} {o : BinOp} {t u : Nat} {x y : Operand} : Sound C call (.binOp o t x y u) (oBin o t x y u) := fun {e s s' v E ρ ty F} h hE hf => by
  obtain ⟨a, h1, h⟩ := w1_ok h
  obtain ⟨b, h2, h⟩ := w1_ok h
  obtain ⟨A, hx, ha⟩ := ev_ok hE h1
  obtain ⟨B, hy, hb⟩ := ev_ok hE h2
  unfold binV at h
  split at h
  · obtain ⟨rfl, V, h5, h6⟩ := eqW_ok (neg := false) h hx ha hy hb
    exact okV h6 h5 hf
  · obtain ⟨rfl, V, h5, h6⟩ := eqW_ok (neg := true) h hx ha hy hb
    exact okV h6 h5 hf
  · obtain ⟨r, h3, h4⟩ := wo_ok h
    rw [force_eq] at h4
    cases h4
    obtain ⟨V, h5, h6⟩ := numB_ok h3 hx ha hy hb
    exact okV h6 h5 hf
theorem v_xorU {x : Operand} {t : TypeId} {k : IntKind} {n : Int} {L : List HProp} (h : evalE E x = some (.int k n)) : OpV C (.unOp .xor t x) ty E L (.int k (k.wrap ((BitVec.ofInt k.bits (if k.signed then -1 else k.max) ^^^ BitVec.ofInt k.bits n).toNat : Int))) L :=
  pureV fun d pos aft g a w ha => by simp [execOp, ha.eval h, Op.unary, Op.intBits]
noncomputable def unV (o : UnOp) (s : St) (v : SV) : R1 := match o with
  | .not => (match v with | .bool b => .ok (.bool (not b)) s | _ => .no)
  | .neg => (match v with | .int k n => fI (k.wrap (0 - n)) fun m => .ok (.int k m) s | _ => .no)
  | .xor => (match v with | .int k n => fI (k.wrap ((BitVec.ofInt k.bits (if k.signed then -1 else k.max) ^^^ BitVec.ofInt k.bits n).toNat : Int)) fun m => .ok (.int k m) s | _ => .no)
  | _ => .no
noncomputable def oUn (o : UnOp) (_ : Nat) (x : Operand) : Fo := fun _ _ e s => w1 x e (unV o s)
theorem oUn_ok {call : Cl} {o : UnOp} {t : Nat} {x : Operand} : Sound C call (.unOp o t x) (oUn o t x) := fun {e s s' v E ρ ty F} h hE hf => by
  obtain ⟨a, h1, h⟩ := w1_ok h
  obtain ⟨A, hx, ha⟩ := ev_ok hE h1
  unfold unV at h
  split at h
  · split at h <;> try (cases h; done)
    cases h; cases ha
    exact okV (v_not hx) rfl hf
  · split at h <;> try (cases h; done)
    rw [fI_eq] at h
    cases h; cases ha
    exact okV (v_neg hx rfl) rfl hf
  · split at h <;> try (cases h; done)
    rw [fI_eq] at h
    cases h; cases ha
    exact okV (v_xorU hx) rfl hf
  · cases h
noncomputable def oIfc (t : Nat) (x : Operand) : Fo := fun P _ e s => wb (concB P t) (w1 x e fun v => .ok (.ifc t v) s)
theorem oIfc_ok {call : Cl} {t : Nat} {x : Operand} : Sound C call (.makeInterface t x) (oIfc t x) := fun {e s s' v E ρ ty F} h hE hf => by
  obtain ⟨h0, h⟩ := wb_ok h
  obtain ⟨a, h1, h⟩ := w1_ok h
  cases h
  obtain ⟨A, hx, ha⟩ := ev_ok hE h1
  exact okV (v_iface h0 hx) (by simp [den, ha]) hf
noncomputable def mkFV (f : Nat) (s : St) (cs : List SV) : R1 := .ok (.fn f cs) s
noncomputable def mkBV (f : Nat) (s : St) (cs : List SV) : R1 := .ok (.bnd f cs) s
noncomputable def oMkF (fn : Fn) (fi cap : Array Operand) : Fo := match fn with
  | .func f => (match fi with | ⟨[]⟩ => fun _ _ e s => wo (evl cap.toList e) (mkFV f s) | ⟨x :: l⟩ => (match cap with | ⟨[]⟩ => fun _ _ e s => wo (evl (x :: l) e) (mkBV f s) | _ => fun _ _ _ _ => .no))
  | _ => fun _ _ _ _ => .no
theorem oMkF_ok {call : Cl} {fn : Fn} {fi cap : Array Operand} : Sound C call (.makeFunc fn fi cap) (oMkF fn fi cap) := fun {e s s' v E ρ ty F} h hE hf => by
  unfold oMkF at h
  split at h
  · split at h
    · obtain ⟨cs, h1, h2⟩ := wo_ok h
      cases h2
      obtain ⟨Cs, h3, h4⟩ := evl_ok hE h1
      exact okV (v_fn (fl := []) (fs := []) rfl h3) (by simp [den, h4]) hf
    · split at h
      · obtain ⟨cs, h1, h2⟩ := wo_ok h
        cases h2
        obtain ⟨Cs, h3, h4⟩ := evl_ok hE h1
        exact okV (v_fn (cl := []) (cs := []) h3 rfl) (by simp [den, h4]) hf
      · cases h
  · cases h
def faV (d : Nat) (s : St) (v : SV) : R1 := match v with | .ptr b o => .ok (.ptr b (Nat.add o d)) s | .gl b o => .ok (.gl b (Nat.add o d)) s | _ => .no
noncomputable def oFa (t : Nat) (x : Operand) (f : Nat) : Fo := fun P _ e s => wo (fieldB P t f) fun d => w1 x e (faV d s)
theorem oFa_ok {call : Cl} {t f : Nat} {x : Operand} : Sound C call (.fieldAddr t x f) (oFa t x f) := fun {e s s' v E ρ ty F} h hE hf => by
  obtain ⟨d, h0, h⟩ := wo_ok h
  obtain ⟨a, h1, h⟩ := w1_ok h
  obtain ⟨A, hx, ha⟩ := ev_ok hE h1
  unfold faV at h
  split at h <;> try (cases h; done)
  · cases h
    obtain ⟨z, hz, rfl⟩ := den_ptr ha
    exact okV (v_fieldAddr h0 hx) (by simp only [den, hz]; rw [show ∀ a b : Nat, Nat.add a b = a + b from fun _ _ => rfl, Nat.add_assoc]) hf
  · cases h
    cases ha
    exact okV (v_fieldAddr h0 hx) rfl hf
def nat? (v : SV) : Option Nat := match v with | .int _ (.ofNat n) => some n | _ => none
theorem nat_ok {v : SV} {n : Nat} {V : Value} (h : nat? v = some n) (hv : den ρ v = some V) : ∃ k, V = .int k (n : Int) := by
  unfold nat? at h
  split at h
  · cases h; cases hv; exact ⟨_, rfl⟩
  · cases h
noncomputable def iaS (t : Nat) (P : Program) (s : St) (b o n i : Nat) : R1 := wo (sliceB P t) fun x => wb (Nat.blt i n) (.ok (.ptr b (Nat.add o (Nat.mul i x.2.1))) s)
noncomputable def iaA (t : Nat) (P : Program) (s : St) (b o i : Nat) : R1 := wo (arrayB P t) fun x => wb (Nat.blt i x.1) (.ok (.ptr b (Nat.add o (Nat.mul i x.2.2))) s)
noncomputable def iaV (t : Nat) (P : Program) (s : St) (v : SV) (i : Nat) : R1 := match v with
  | .sli b o n _ => iaS t P s b o n i
  | .ptr b o => iaA t P s b o i
  | .gl b o => wo (arrayB P t) fun x => wb (Nat.blt i x.1) (.ok (.gl b (Nat.add o (Nat.mul i x.2.2))) s)
  | _ => .no
noncomputable def oIa (t : Nat) (x y : Operand) : Fo := fun P _ e s => w1 x e fun a => w1 y e fun w => wo (nat? w) (iaV t P s a)
theorem oIa_ok {call : Cl} {t : Nat} {x y : Operand} : Sound C call (.indexAddr t x y) (oIa t x y) := fun {e s s' v E ρ ty F} h hE hf => by
  obtain ⟨a, h1, h⟩ := w1_ok h
  obtain ⟨w, h2, h⟩ := w1_ok h
  obtain ⟨i, h3, h⟩ := wo_ok h
  obtain ⟨A, hx, ha⟩ := ev_ok hE h1
  obtain ⟨W, hy, hw⟩ := ev_ok hE h2
  obtain ⟨k, rfl⟩ := nat_ok h3 hw
  have as : ∀ a b : Nat, Nat.add a b = a + b := fun _ _ => rfl
  have ms : ∀ a b : Nat, Nat.mul a b = a * b := fun _ _ => rfl
  unfold iaV at h
  split at h <;> try (cases h; done)
  · obtain ⟨z, h4, h⟩ := wo_ok h
    obtain ⟨h5, h⟩ := wb_ok h
    cases h
    obtain ⟨r, hr, rfl⟩ := den_sli ha
    exact okV (v_index i rfl (e := z.1) (sz := z.2.1) (by_ := z.2.2) h4 hx hy (blt_lt h5)) (by simp only [den, hr, as, ms, Nat.add_assoc]) hf
  · obtain ⟨z, h4, h⟩ := wo_ok h
    obtain ⟨h5, h⟩ := wb_ok h
    cases h
    obtain ⟨r, hr, rfl⟩ := den_ptr ha
    exact okV (v_indexA i rfl (n := z.1) (e := z.2.1) (sz := z.2.2) h4 hx hy (blt_lt h5)) (by simp only [den, hr, as, ms, Nat.add_assoc]) hf
  · obtain ⟨z, h4, h⟩ := wo_ok h
    obtain ⟨h5, h⟩ := wb_ok h
    cases h
    cases ha
    exact okV (v_indexA i rfl (n := z.1) (e := z.2.1) (sz := z.2.2) h4 hx hy (blt_lt h5)) rfl hf
end
end Go.Cr
namespace Go.Sl
section
variable {C : Ctx} {ops : Array Oper} {E : Env} {L F : List HProp} {d : Option Nat} {ty : TypeId} {pos : String} {aft : Array Edge}
def ppi : Value → Option Addr × Nat | .tuple ⟨[.slice p _ c, _]⟩ => (p, c) | _ => (none, 0)
def bpi : Value → Nat | .tuple ⟨[.agg ⟨[_, _, .slice (some a) _ _]⟩, _]⟩ => a.block | _ => 0
end
end Go.Sl
namespace Go.Sl
section
variable {α β : Type}
def RdO (c : Ec α) (p : Option Addr) (n : Nat) (l : List α) : HProp := fun w0 h => l.length = n ∧ (n = 0 ∨ ∃ b o cs T fr, p = some ⟨b, o, none⟩ ∧ h b = some (.cells cs T fr) ∧ ∀ (i : Nat) v, (l.flatMap c.e)[i]? = some v → cs[o + i]? = some v)
def DLs (c : Ec α) (f : β → Option Addr × List α) (l : List β) : HProp := fun w0 h => ∀ x ∈ l, RdO c (f x).1 (f x).2.length (f x).2 w0 h
end
end Go.Sl
namespace Go.Sl
section
variable {C : Ctx} {Q : QT} {E : Env} {L F : List HProp} {ops : Array Oper} {rest : List Oper} {d : Nat} {ty : TypeId} {pos : String} {aft : Array Edge}
theorem x_copyC {x y : Operand} {dt st elem by_ b o dn dc sn sc T n : Nat} {p2 : Option Addr} {vs ws pre post : List Value} {R : HProp}
    (ht : sliceB C.P dt = some (elem, 1, by_)) (hd : evalE E x = some (.slice (some ⟨b, o, none⟩) dn dc)) (hs : evalE E y = some (.slice p2 sn sc))
    (hL : Rem L (Cel b T (pre ++ vs ++ post)) F) (hm : R ∈ F) (hR : ∀ h, R C.w0 h → Rd p2 n 1 ws C.w0 h) (ho : pre.length = o) (hn : n = min sn dn) (hv : vs.length = n) (h1 : ws.all Value.oneCell' = true) :
    OpX C (.call ⟨.builtin .copy, [x, y].toArray, #[dt, st]⟩) ty E L (fun v L' => v = .int .i64 n ∧ L' = Cel b T (pre ++ ws ++ post) :: F) := by
  intro d pos aft g a w K Qx ha hi hK
  obtain ⟨ht1, i, hi2, hsz, _⟩ := slice_spec ht
  have hi1 := hi.perm hL.perm
  obtain ⟨hwl, hwc⟩ := hi1.tail.rd hm hR
  obtain ⟨consts, hrun⟩ := run_resolve_builtin (C := C) (ty := ty) (pos := pos) (aft := aft) (b := .copy) (xs := [x, y]) (tys := #[dt, st]) (vs := [.slice (some ⟨b, o, none⟩) dn dc, .slice p2 sn sc]) (a := a) (by simp [ha.eval hd, ha.eval hs]) d g w
  suffices h : ∃ w', (Builtin.copy_ #[dt, st] ty #[.slice (some ⟨b, o, none⟩) dn dc, .slice p2 sn sc]).run C.P w = .ok (.int .i64 n) w' ∧ Inv C.w0 (Cel b T (pre ++ ws ++ post) :: F) w' by
    obtain ⟨w', hr, hi'⟩ := h
    unfold Oper.wp
    rw [hrun]
    simp only [builtin, Sem.run_bind, hr, Result.andThen_ok, Sem.run_pure]
    exact hK _ _ _ ⟨rfl, rfl⟩ hi'
  have hfirst : (Builtin.firstCells 1 n (.slice p2 sn sc)).run C.P w = .ok ws.toArray w := by
    by_cases hm0 : n = 0
    · subst hm0
      have hw0 : ws = [] := List.length_eq_zero_iff.1 (by omega)
      subst hw0
      cases p2 <;> simp [Builtin.firstCells, loadCells, loadCellsFrom]
    · rcases hwc with hwc | ⟨b2, o2, rfl, hc⟩
      · exact absurd hwc hm0
      · exact run_firstCells_some (P := C.P) w 1 n _ sn sc ws hwl (fun j v hj => by rw [Addr.add_mk]; exact hc j v hj)
  have hall : ∀ u ∈ ws, u.oneCell' = true := fun u hu => by simpa using List.all_eq_true.1 h1 u hu
  have hwn : ws.length = n := by omega
  have hfit : o + ws.length ≤ (pre ++ vs ++ post).length := by simp only [List.length_append]; omega
  obtain ⟨w', hr, hi'⟩ := run_storeCells (C := C) ws o 0 _ _ w hall (by simpa using hfit) hi1
  refine ⟨w', ?_, ?_⟩
  · have hmin : Nat.min sn dn = n := by rw [hn]
    simp [Builtin.copy_, run_underlying ht1, sizeOf, typeInfo, hi2, hsz, Builtin.lenOf, hmin, hfirst, hr, goInt]
  · have e5 : (pre ++ vs ++ post).take (o + 0) = pre := by
      rw [Nat.add_zero, List.append_assoc]
      exact List.take_left' ho
    have e6 : (pre ++ vs ++ post).drop (o + 0 + ws.length) = post := by
      rw [Nat.add_zero, show o + ws.length = (pre ++ vs).length by simp; omega, List.drop_left]
    rw [e5, e6] at hi'
    exact hi'
end
end Go.Sl
namespace Go.Sl
def num : Nat → List Value → List (Nat × Value)
  | _, [] => []
  | i, v :: vs => (i, v) :: num (i + 1) vs
section
variable {C : Ctx} {Q : QT} {E : Env} {L : List HProp} {ops : Array Oper} {rest : List Oper} {d : Nat} {ty : TypeId} {pos : String} {aft : Array Edge}
end
end Go.Sl
namespace Go.Cr
open Go.Sl
section
variable {C : Ctx} {ty : TypeId} {E : Env} {ρ : Ren} {s s' : St} {v : SV} {V : Value} {F : List HProp} {e : En} {w0 w : World}
abbrev Got (s : St) (b : Nat) (ob : Ob) : Prop := s.h.get b = some ob ∧ Nat.blt ob.T 4294967296 = true
theorem inv_open {ob : Ob} {b : Nat} (hg : Got s b ob) (hi : Inv w0 (denH ρ s.h ++ F) w) : ∃ x pre vs post, ρ ob.id = some x ∧ dens ρ ob.cs = some vs ∧ pre.length = x.2.1 ∧ x.2.2 * ob.sz ≤ post.length ∧ (ob.ex = true → x.2.2 = 0) ∧
    Inv w0 (Cel x.1 ob.T (pre ++ vs ++ post) :: (denH ρ (s.h.set b none) ++ F)) w := by
  have h1 := hi.perm ((H_get (ρ := ρ) hg.1).append_right F)
  rw [HO_c hg.2] at h1
  obtain ⟨⟨x, pre, vs, post⟩, ⟨a, b, c, d, e⟩, h2⟩ := Inv.opn (A := HOc ρ ob) (ι := (Nat × Nat × Nat) × List Value × List Value × List Value) (K := fun z => ρ ob.id = some z.1 ∧ dens ρ ob.cs = some z.2.2.1 ∧ z.2.1.length = z.1.2.1 ∧ z.1.2.2 * ob.sz ≤ z.2.2.2.length ∧ (ob.ex = true → z.1.2.2 = 0))
    (B := fun z => [Cel z.1.1 ob.T (z.2.1 ++ z.2.2.1 ++ z.2.2.2)]) (fun h ⟨x, pre, vs, post, a, b, c, d, e, f⟩ => ⟨(x, pre, vs, post), ⟨a, b, d, e, f⟩, h, fun _ => none, fun _ => .inr rfl, Hp.le_refl _, fun _ _ e => (by simp at e), c, trivial⟩) h1
  exact ⟨x, pre, vs, post, a, b, c, d, e, h2⟩
theorem inv_close {ob : Ob} {t : Tr Ob} {b : Nat} {x : Nat × Nat × Nat} {pre vs post : List Value} (hT : Nat.blt ob.T 4294967296 = true) (h1 : ρ ob.id = some x) (h2 : dens ρ ob.cs = some vs) (h3 : pre.length = x.2.1) (h4 : x.2.2 * ob.sz ≤ post.length) (h5 : ob.ex = true → x.2.2 = 0)
    (hi : Inv w0 (Cel x.1 ob.T (pre ++ vs ++ post) :: (denH ρ (t.set b none) ++ F)) w) : Inv w0 (denH ρ (t.set b (some ob)) ++ F) w := by
  refine Inv.perm ?_ ((H_set (ρ := ρ) t b ob).append_right F).symm
  rw [HO_c hT]
  exact Inv.imp (fun h hc => ⟨x, pre, vs, post, h1, h2, hc, h3, h4, h5⟩) hi
noncomputable def newO (s : St) (T sz : Nat) (ex : Bool) (cs : List SV) (k : Nat → SV) : R1 := wb (Nat.blt T 4294967296) (fN s.nx fun n => .ok (k n) ⟨s.h.set n (some ⟨n, T, sz, ex, cs⟩), Nat.succ n⟩)
theorem newO_ok {T sz : Nat} {ex : Bool} {cs : List SV} {k : Nat → SV} (h : newO s T sz ex cs k = .ok v s') : v = k s.nx ∧ s' = ⟨s.h.set s.nx (some ⟨s.nx, T, sz, ex, cs⟩), s.nx + 1⟩ ∧ Nat.blt T 4294967296 = true := by
  obtain ⟨hT, h⟩ := wb_ok h
  rw [fN_eq] at h
  cases h
  exact ⟨rfl, rfl, hT⟩
theorem new_sub {T sz : Nat} {ex : Bool} {cs : List SV} {x : Nat × Nat × Nat} {pre vs post : List Value} (hT : Nat.blt T 4294967296 = true) (hf : Fr ρ s.nx) (h2 : dens ρ cs = some vs) (h3 : pre.length = x.2.1) (h4 : x.2.2 * sz ≤ post.length) (h5 : ex = true → x.2.2 = 0) :
    Sub (Cel x.1 T (pre ++ vs ++ post) :: (denH ρ s.h ++ F)) (denH (ρ.put s.nx x) (s.h.set s.nx (some ⟨s.nx, T, sz, ex, cs⟩)) ++ F) := fun w0 w hi => by
  have k := Ren.put_ext x hf
  have h6 : Inv w0 (Cel x.1 T (pre ++ vs ++ post) :: (denH (ρ.put s.nx x) (s.h.set s.nx none) ++ F)) w := by
    have := (sub_out (ρ := ρ) s.h s.nx (Cel x.1 T (pre ++ vs ++ post) :: F)) w0 w (hi.perm List.perm_middle.symm)
    exact ((sub_ext k _ _) w0 w this).perm List.perm_middle
  exact inv_close (ob := ⟨s.nx, T, sz, ex, cs⟩) hT (Ren.put_self x) (dens_ext k h2) h3 h4 h5 h6
theorem ok_new {o : Op} {T sz : Nat} {ex : Bool} {cs : List SV} {k : Nat → SV} (h : newO s T sz ex cs k = .ok v s') (hf : Fr ρ s.nx)
    (hx : OpX C o ty E (denH ρ s.h ++ F) (fun V L' => ∃ x pre vs post, dens ρ cs = some vs ∧ pre.length = x.2.1 ∧ x.2.2 * sz ≤ post.length ∧ (ex = true → x.2.2 = 0) ∧ den (ρ.put s.nx x) (k s.nx) = some V ∧ L' = Cel x.1 T (pre ++ vs ++ post) :: (denH ρ s.h ++ F))) : OkX C ty o E ρ s s' v F := by
  obtain ⟨rfl, rfl, hT⟩ := newO_ok h
  intro d pos aft g a w K Q ha hi hK
  refine hx d pos aft g a w K Q ha hi ?_
  rintro V L' w' ⟨x, pre, vs, post, h1, h2, h3, h4, h5, rfl⟩ hi'
  exact hK V _ w' ⟨ρ.put s.nx x, Ren.put_ext x hf, Ren.put_fr x hf, h5, new_sub hT hf h1 h2 h3 h4⟩ hi'
noncomputable def zeros (P : Program) (t : Nat) : Option (List SV) := Option.rec none (fun l => ofVs 100000 l) (zeroB P t)
theorem zeros_ok {P : Program} {t : Nat} {z : List SV} (h : zeros P t = some z) : ∃ zs, zeroB P t = some zs ∧ ∀ ρ, dens ρ z = some zs := by
  unfold zeros at h
  cases hz : zeroB P t with
  | none => rw [hz] at h; cases h
  | some zs => rw [hz] at h; exact ⟨zs, rfl, fun ρ => ofVs_ok _ zs z h⟩
noncomputable def oAlloc (t : Nat) : Fo := fun P _ _ s => wo (zeros P t) fun z => newO s t 1 true z fun b => .ptr b 0
theorem oAlloc_ok {call : Cl} {t : Nat} : Sound C call (.alloc t) (oAlloc t) := fun {e s s' v E ρ ty F} h hE hf => by
  obtain ⟨z, h1, h⟩ := wo_ok h
  obtain ⟨zs, h2, h3⟩ := zeros_ok h1
  refine ok_new h hf ?_
  intro d pos aft g a w K Q ha hi hK
  refine x_alloc h2 d pos aft g a w K Q ha hi ?_
  rintro V L' w' ⟨b, rfl, rfl⟩ hi'
  exact hK _ _ w' ⟨(b, 0, 0), [], zs, [], h3 ρ, rfl, by simp, fun _ => rfl, by simp [den, Ren.put_self], by simp⟩ hi'
def cellsV (v : SV) : List SV := match v with | .agg l => l | v => [v]
theorem cellsV_ok (h : den ρ v = some V) : dens ρ (cellsV v) = some V.cells.toList := by
  unfold cellsV
  split
  · obtain ⟨vs, h1, rfl⟩ := den_agg h; simpa [Value.cells] using h1
  · rename_i hne
    have : V.cells.toList = [V] := by
      cases v <;> simp only [den] at h
      case agg l => exact absurd rfl (hne l)
      all_goals (first | (cases h; rfl) | (split at h <;> first | (cases h; rfl) | cases h))
    rw [this]
    exact dens_mk h rfl
noncomputable def oBox (t : Nat) (x : Operand) : Fo := fun _ _ e s => w1 x e fun v => newO s t 1 true (cellsV v) fun b => .ptr b 0
theorem oBox_ok {call : Cl} {t : Nat} {x : Operand} : Sound C call (.box t x) (oBox t x) := fun {e s s' v E ρ ty F} h hE hf => by
  obtain ⟨u, h1, h⟩ := w1_ok h
  obtain ⟨U, hx, hu⟩ := ev_ok hE h1
  refine ok_new h hf ?_
  intro d pos aft g a w K Q ha hi hK
  refine x_box hx d pos aft g a w K Q ha hi ?_
  rintro V L' w' ⟨b, rfl, rfl⟩ hi'
  exact hK _ _ w' ⟨(b, 0, 0), [], _, [], cellsV_ok hu, rfl, by simp, fun _ => rfl, by simp [den, Ren.put_self], by simp⟩ hi'
noncomputable def wO (s : St) (b : Nat) (k : Ob → R1) : R1 := wo (s.h.get b) fun ob => wb (Nat.beq ob.id b) (wb (Nat.blt ob.T 4294967296) (k ob))
theorem wO_ok {b : Nat} {k : Ob → R1} (h : wO s b k = .ok v s') : ∃ ob, Got s b ob ∧ ob.id = b ∧ k ob = .ok v s' := by
  obtain ⟨ob, h1, h⟩ := wo_ok h
  obtain ⟨h2, h⟩ := wb_ok h
  obtain ⟨h3, h⟩ := wb_ok h
  exact ⟨ob, ⟨h1, h3⟩, Nat.eq_of_beq_eq_true h2, h⟩
def cut (l : List SV) (o n : Nat) : List SV := (l.drop o).take n
def lenIs (n : Nat) (l : List SV) : Bool := Nat.beq n l.length
theorem lenIs_ok {n : Nat} {l : List SV} (h : lenIs n l = true) : l.length = n := (Nat.eq_of_beq_eq_true h).symm
noncomputable def ldC (P : Program) (t o : Nat) (s : St) (ob : Ob) : R1 := Bool.rec (wo (aggB P t) fun n => wb (lenIs n (cut ob.cs o n)) (.ok (.agg (cut ob.cs o n)) s)) (wo (getL ob.cs o) fun v => .ok v s) (scalarB P t)
noncomputable def gO (s : St) (g : Nat) (k : Ob → R1) : R1 := wo (s.h.get (Nat.add 1000000 g)) fun ob => wb (Nat.beq ob.T (Nat.add 8589934592 g)) (k ob)
theorem gO_ok {g : Nat} {k : Ob → R1} (h : gO s g k = .ok v s') : ∃ ob, s.h.get (1000000 + g) = some ob ∧ ob.T = 8589934592 + g ∧ k ob = .ok v s' := by
  obtain ⟨ob, h1, h⟩ := wo_ok h
  obtain ⟨h2, h⟩ := wb_ok h
  exact ⟨ob, h1, Nat.eq_of_beq_eq_true h2, h⟩
noncomputable def ldV (t : Nat) (P : Program) (s : St) (v : SV) : R1 := match v with | .ptr b o => wO s b (ldC P t o s) | .gl g o => gO s g (ldC P t o s) | _ => .no
noncomputable def oLoad (t : Nat) (x : Operand) : Fo := fun P _ e s => w1 x e (ldV t P s)
theorem cell_at {ob : Ob} {b : Nat} (hg : Got s b ob) (hi : Inv w0 (denH ρ s.h ++ F) w) : ∃ x vs, ρ ob.id = some x ∧ dens ρ ob.cs = some vs ∧ ∀ o V, vs[o]? = some V → w.cell? ⟨x.1, x.2.1 + o, none⟩ = some V := by
  obtain ⟨x, pre, vs, post, h1, h2, h3, h4, h5, h6⟩ := inv_open hg hi
  refine ⟨x, vs, h1, h2, fun o V hV => ?_⟩
  have hlt := (List.getElem?_eq_some_iff.1 hV).1
  rw [Inv.cel_cell h6, List.append_assoc, List.getElem?_append_right (by omega), show x.2.1 + o - pre.length = o by omega, List.getElem?_append_left hlt, hV]
theorem glob_at {ob : Ob} {g : Nat} (hg : s.h.get (1000000 + g) = some ob) (hT : ob.T = 8589934592 + g) (hi : Inv w0 (denH ρ s.h ++ F) w) : ∃ vs, dens ρ ob.cs = some vs ∧ ∀ o V, vs[o]? = some V → w.cell? ⟨g, 0 + o, none⟩ = some V := by
  have h1 := hi.perm ((H_get (ρ := ρ) hg).append_right F)
  have nb : ∀ a b : Nat, b ≤ a → Nat.blt a b = false := fun a b h => by
    cases hb : Nat.blt a b with
    | false => rfl
    | true => have := blt_lt hb; omega
  rw [HO_g (nb _ _ (by omega)) (nb _ _ (by omega))] at h1
  obtain ⟨hb, h, a, h1', h2', d, l1, l2, ⟨vs, hv, ⟨hl, hr⟩, _⟩, k⟩ := h1
  refine ⟨vs, hv, fun o V hV => ?_⟩
  rcases hr with hr | ⟨b, o', e, hr⟩
  · have := (List.getElem?_eq_some_iff.1 hV).1
    omega
  · obtain ⟨rfl, rfl, _⟩ := Addr.mk.inj (Option.some.inj e)
    have := cellH_cell hb (fun b o e => a b o (l1 b o e)) (hr o V hV)
    rw [hT, Nat.add_sub_cancel_left] at this
    exact this
theorem ldC_ok {t o B O : Nat} {x : Operand} {ob : Ob} (h : ldC C.P t o s ob = .ok v s') (hx : evalE E x = some (.pointer (some ⟨B, O + o, none⟩))) (hf : Fr ρ s.nx)
    (hc : ∀ w, Inv C.w0 (denH ρ s.h ++ F) w → ∃ vs, dens ρ ob.cs = some vs ∧ ∀ o V, vs[o]? = some V → w.cell? ⟨B, O + o, none⟩ = some V) : OkX C ty (.load t x) E ρ s s' v F := by
  intro d pos aft g a w K Q ha hi hK
  obtain ⟨vs, e2, e3⟩ := hc w hi
  unfold ldC at h
  cases hs : scalarB C.P t with
  | true =>
    rw [hs] at h
    obtain ⟨r, h2, h⟩ := wo_ok h
    cases h
    rw [getL_eq] at h2
    obtain ⟨V, h3, h4⟩ := dens_get e2 h2
    refine okV (v_loadW hs hx (fun w hi => ?_)) h4 hf d pos aft g a w K Q ha hi hK
    obtain ⟨ws, f2, f3⟩ := hc w hi
    rw [e2] at f2
    cases f2
    exact f3 o V h3
  | false =>
    rw [hs] at h
    obtain ⟨n, hn, h⟩ := wo_ok h
    obtain ⟨hl, h⟩ := wb_ok h
    cases h
    have hl := lenIs_ok hl
    have hd : dens ρ (cut ob.cs o n) = some ((vs.drop o).take n) := dens_take n (dens_drop o e2)
    have hln := dens_len hd
    refine okV (v_loadAggW hn hx (by rw [hln, hl]) (fun w hi => ?_)) (by simp [den, hd]) hf d pos aft g a w K Q ha hi hK
    intro j V hj
    obtain ⟨ws, f2, f3⟩ := hc w hi
    rw [e2] at f2
    cases f2
    rw [Nat.add_assoc]
    refine f3 (o + j) V ?_
    rw [List.getElem?_take] at hj
    split at hj
    · simpa [List.getElem?_drop] using hj
    · cases hj
theorem oLoad_ok {call : Cl} {t : Nat} {x : Operand} : Sound C call (.load t x) (oLoad t x) := fun {e s s' v E ρ ty F} h hE hf => by
  obtain ⟨u, h1, h⟩ := w1_ok h
  obtain ⟨U, hx, hu⟩ := ev_ok hE h1
  unfold ldV at h
  split at h <;> try (cases h; done)
  · rename_i b o
    obtain ⟨ob, hg, hid, h⟩ := wO_ok h
    obtain ⟨z, hz, rfl⟩ := den_ptr hu
    refine ldC_ok h hx hf (fun w hi => ?_)
    obtain ⟨x', vs, e1, e2, e3⟩ := cell_at hg hi
    rw [hid, hz] at e1
    cases e1
    exact ⟨vs, e2, e3⟩
  · rename_i g o
    obtain ⟨ob, hg, hT, h⟩ := gO_ok h
    cases hu
    exact ldC_ok (O := 0) h (by rw [Nat.zero_add]; exact hx) hf (fun w hi => glob_at hg hT hi)
noncomputable def setK {α : Type} (l : List SV) : Nat → SV → (List SV → α) → α := List.rec (motive := fun _ => Nat → SV → (List SV → α) → α) (fun _ _ k => k [])
  (fun x t ih n v k => Nat.rec (motive := fun _ => α) (k (v :: t)) (fun p _ => ih p v fun r => k (x :: r)) n) l
theorem setK_eq {α : Type} : ∀ (l : List SV) (n : Nat) (v : SV) (k : List SV → α), setK l n v k = k (l.set n v)
  | [], n, v, k => rfl
  | x :: l, 0, v, k => rfl
  | x :: l, n + 1, v, k => setK_eq l n v (fun r => k (x :: r))
noncomputable def setsK {α : Type} (vs : List SV) : List SV → Nat → (List SV → α) → α := List.rec (motive := fun _ => List SV → Nat → (List SV → α) → α) (fun l _ k => k l)
  (fun v _ ih l n k => setK l n v fun l => ih l (Nat.succ n) k) vs
def setsP : List SV → Nat → List SV → List SV
  | l, _, [] => l
  | l, n, v :: vs => setsP (l.set n v) (n + 1) vs
theorem setsK_eq {α : Type} : ∀ (vs l : List SV) (n : Nat) (k : List SV → α), setsK vs l n k = k (setsP l n vs)
  | [], l, n, k => rfl
  | v :: vs, l, n, k => (setK_eq l n v _).trans (setsK_eq vs (l.set n v) (n + 1) k)
theorem dens_sets : ∀ {cv cs : List SV} {us vs : List Value} (n : Nat), dens ρ cs = some vs → dens ρ cv = some us → n + us.length ≤ vs.length → dens ρ (setsP cs n cv) = some (vs.take n ++ us ++ vs.drop (n + us.length))
  | [], cs, us, vs, n, h1, h2, h3 => by cases h2; simpa [setsP] using h1
  | v :: cv, cs, us, vs, n, h1, h2, h3 => by
    obtain ⟨V, us, rfl, h4, h5⟩ := dens_cons h2
    simp only [List.length_cons] at h3
    have := dens_sets (cv := cv) (n + 1) (dens_set n h1 h4) h5 (by rw [List.length_set]; omega)
    have hi : n < vs.length := by omega
    have e : (vs.set n V).take (n + 1) = vs.take n ++ [V] := by
      rw [List.take_add_one, List.take_set_of_le (Nat.le_refl _)]
      simp [hi]
    have e2 : (vs.set n V).drop (n + 1 + us.length) = vs.drop (n + (us.length + 1)) := by
      rw [List.drop_set_of_lt (by omega)]; congr 1; omega
    rw [e, e2] at this
    simpa [setsP] using this
def one (v : SV) : Bool := match v with | .agg _ => false | .tup _ => false | .und => false | _ => true
theorem one_ok (h : one v = true) (hv : den ρ v = some V) : V.oneCell' = true := by
  cases v <;> simp only [den] at hv <;> first | (cases h; done) | (cases hv; rfl) | (split at hv <;> first | (cases hv; rfl) | cases hv)
def ones (l : List SV) : Bool := l.all one
theorem ones_ok : ∀ {l : List SV} {vs : List Value}, ones l = true → dens ρ l = some vs → vs.all Value.oneCell' = true
  | [], vs, h, hv => by cases hv; rfl
  | v :: l, vs, h, hv => by
    obtain ⟨V, us, rfl, h1, h2⟩ := dens_cons hv
    unfold ones at h
    simp only [List.all_cons, Bool.and_eq_true] at h ⊢
    exact ⟨one_ok h.1 h1, ones_ok h.2 h2⟩
noncomputable def putO (s : St) (b : Nat) (ob : Ob) (v : SV) (cs : List SV) : R1 := .ok v ⟨s.h.set b (some ⟨ob.id, ob.T, ob.sz, ob.ex, cs⟩), s.nx⟩
noncomputable def stA (s : St) (b o : Nat) (ob : Ob) (v : SV) (n : Nat) : R1 := match v with
  | .agg l => wb (lenIs n l) (wb (ones l) (wb (Nat.blt 0 n) (wb (lenIs n (cut ob.cs o n)) (setsK l ob.cs o (putO s b ob .und)))))
  | _ => .no
noncomputable def stC (P : Program) (t : Nat) (s : St) (b o : Nat) (v : SV) (ob : Ob) : R1 := Bool.rec (wo (aggB P t) (stA s b o ob v)) (wb (one v) (wo (getL ob.cs o) fun _ => setK ob.cs o v (putO s b ob .und))) (scalarB P t)
noncomputable def stV (t : Nat) (P : Program) (s : St) (v : SV) (a : SV) : R1 := match a with | .ptr b o => wO s b (stC P t s b o v) | _ => .no
noncomputable def oStore (t : Nat) (x y : Operand) : Fo := fun P _ e s => w1 x e fun a => w1 y e fun v => stV t P s v a
theorem oStore_ok {call : Cl} {t : Nat} {x y : Operand} : Sound C call (.store t x y) (oStore t x y) := fun {e s s' v E ρ ty F} h hE hf => by
  obtain ⟨a, h1, h⟩ := w1_ok h
  obtain ⟨A, hx, hA⟩ := ev_ok hE h1
  obtain ⟨u, h2, h⟩ := w1_ok h
  obtain ⟨U, hy, hu⟩ := ev_ok hE h2
  unfold stV at h
  split at h <;> try (cases h; done)
  rename_i b o _
  obtain ⟨ob, hg, hid, h⟩ := wO_ok h
  obtain ⟨z, hz, rfl⟩ := den_ptr hA
  intro d pos aft g ac w K Q ha hi hK
  obtain ⟨x', pre, vs, post, e1, e2, e3, e4, e5, hi2⟩ := inv_open hg hi
  have e1' := e1
  rw [hid, hz] at e1'
  cases e1'
  unfold stC at h
  cases hs : scalarB C.P t with
  | true =>
    rw [hs] at h
    obtain ⟨h3, h⟩ := wb_ok h
    obtain ⟨r, h4, h⟩ := wo_ok h
    rw [setK_eq] at h
    cases h
    rw [getL_eq] at h4
    have hlt : o < vs.length := by rw [dens_len e2]; exact (List.getElem?_eq_some_iff.1 h4).1
    obtain ⟨w', hr, hi3, _⟩ := v_store (C := C) (E := E) (ty := ty) (o := z.2.1 + o) (cs := pre ++ vs ++ post) (cs' := pre ++ vs.set o U ++ post) hs hx hy (one_ok h3 hu) (Rep.head (L := denH ρ (s.h.set b none) ++ F)) (by simp; omega) (by
      rw [List.append_assoc, List.set_append_right _ _ (by omega), show z.2.1 + o - pre.length = o by omega, List.set_append_left _ _ hlt, List.append_assoc]) d pos aft g ac w ha hi2
    have hc := inv_close (ob := ⟨ob.id, ob.T, ob.sz, ob.ex, ob.cs.set o u⟩) (t := s.h) (b := b) hg.2 e1 (dens_set o e2 hu) e3 e4 e5 hi3
    unfold Oper.wp
    have key := hK undef _ w' ⟨ρ, Ext.refl _, hf, rfl, Sub.refl _⟩ hc
    rcases hr with hr | ⟨hr, _⟩ <;> rw [hr] <;> exact key
  | false =>
    rw [hs] at h
    obtain ⟨n, hn, h⟩ := wo_ok h
    unfold stA at h
    split at h <;> try (cases h; done)
    rename_i l _ _
    obtain ⟨k1, h⟩ := wb_ok h
    obtain ⟨k2, h⟩ := wb_ok h
    obtain ⟨k3, h⟩ := wb_ok h
    obtain ⟨k4, h⟩ := wb_ok h
    rw [setsK_eq] at h
    cases h
    obtain ⟨us, hus, rfl⟩ := den_agg hu
    have hul := dens_len hus
    have k1 := lenIs_ok k1
    have k3 := blt_lt k3
    have k4 := lenIs_ok k4
    have hvl := dens_len e2
    have hfit : o + us.length ≤ vs.length := by
      unfold cut at k4
      rw [List.length_take, List.length_drop] at k4
      omega
    obtain ⟨w', hr, hi3, _⟩ := v_storeAgg (C := C) (E := E) (ty := ty) (o := z.2.1 + o) (n := n) (cs := pre ++ vs ++ post) (cs' := pre ++ (vs.take o ++ us ++ vs.drop (o + us.length)) ++ post) hn hx hy (ones_ok k2 hus) (by omega) (Rep.head (L := denH ρ (s.h.set b none) ++ F)) (by simp; omega) (by
      rw [List.append_assoc pre vs post, List.take_append, List.drop_append, List.take_of_length_le (by omega), List.drop_eq_nil_of_le (by omega : pre.length ≤ z.2.1 + o + n), show z.2.1 + o - pre.length = o by omega, show z.2.1 + o + n - pre.length = o + us.length by omega,
        List.take_append_of_le_length (by omega), List.drop_append_of_le_length (by omega)]
      simp [List.append_assoc]) d pos aft g ac w ha hi2
    have hc := inv_close (ob := ⟨ob.id, ob.T, ob.sz, ob.ex, setsP ob.cs o l⟩) (t := s.h) (b := b) hg.2 e1 (dens_sets o e2 hus hfit) e3 e4 e5 hi3
    unfold Oper.wp
    have key := hK undef _ w' ⟨ρ, Ext.refl _, hf, rfl, Sub.refl _⟩ hc
    rcases hr with hr | ⟨hr, _⟩ <;> rw [hr] <;> exact key
end
end Go.Cr

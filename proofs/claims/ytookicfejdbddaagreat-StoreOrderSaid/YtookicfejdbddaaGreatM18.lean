/- Walks of functions that the law reaches, and what they lean on; no conditions. -/
import Derived.Test.YtookicfejdbddaaGreatM17
set_option linter.unusedVariables false
set_option linter.unusedSimpArgs false
set_option linter.unnecessarySimpa false
set_option maxRecDepth 100000
namespace Go.Cr
open Go.Sl
section
variable {C : Ctx} {ty : TypeId} {E : Env} {ρ : Ren} {s s' s1 : St} {v : SV} {V : Value} {F : List HProp} {e : En} {w0 w : World}
def isU8 (P : Program) (t : Nat) : Bool := match P.underlying t with | some (.int .u8) => true | _ => false
theorem isU8_ok {P : Program} {t : Nat} (h : isU8 P t = true) : P.underlying t = some (.int .u8) := by
  unfold isU8 at h
  split at h
  · assumption
  · cases h
def elS (P : Program) (t : Nat) : Option Nat := match P.underlying t with | some (.slice e) => some e | _ => none
theorem elS_ok {P : Program} {t e : Nat} (h : elS P t = some e) : P.underlying t = some (.slice e) := by
  unfold elS at h
  split at h
  · cases h; assumption
  · cases h
def kInt (P : Program) (t : Nat) : Option IntKind := match P.underlying t with | some (.int k) => some k | _ => none
theorem kInt_ok {P : Program} {t : Nat} {k : IntKind} (h : kInt P t = some k) : P.underlying t = some (.int k) := by
  unfold kInt at h
  split at h
  · cases h; assumption
  · cases h
def toB : List SV → Option (List Nat)
  | [] => some []
  | .int .u8 (.ofNat m) :: l => (match toB l with | some r => some (m :: r) | none => none)
  | _ :: _ => none
theorem toB_ok : ∀ {l : List SV} {r : List Nat} {vs : List Value}, toB l = some r → dens ρ l = some vs → vs = (r.map Int.ofNat).map (Value.int .u8)
  | [], r, vs, h, hv => by cases h; cases hv; rfl
  | v :: l, r, vs, h, hv => by
    unfold toB at h
    split at h
    · rename_i h0; cases h0
    · rename_i m l' he
      obtain ⟨rfl, rfl⟩ := List.cons.inj he
      cases hl : toB l with
      | none => rw [hl] at h; cases h
      | some r' =>
        rw [hl] at h
        cases h
        obtain ⟨V, us, rfl, h1, h2⟩ := dens_cons hv
        cases h1
        rw [toB_ok hl h2]
        rfl
    · cases h
noncomputable def cvI (dst : Nat) (P : Program) (s : St) (n : Int) : R1 := wo (kInt P dst) fun k => fI (wrap k n) fun m => .ok (.int k m) s
noncomputable def cvS (src dst : Nat) (P : Program) (s : St) (l : List Nat) : R1 := wb (isStr P src) (wo (elS P dst) fun T => wb (isU8 P T) (wb (bytB l) (newO s T 1 false (bytesV l) fun b => .sli b 0 l.length l.length)))
noncomputable def cvB (src dst : Nat) (P : Program) (s : St) (b o n : Nat) : R1 := wb (isStr P dst) (wo (elS P src) fun T => wb (isU8 P T) (wO s b fun ob => wb (lenIs n (cut ob.cs o n)) (wo (toB (cut ob.cs o n)) fun l => .ok (.str l) s)))
noncomputable def cvN (src dst : Nat) (P : Program) (s : St) : R1 := wb (isStr P dst) (wo (elS P src) fun T => wb (isU8 P T) (.ok (.str []) s))
theorem v_convId {x : Operand} {t el b o n cap T : Nat} {cs : List Value} {L : List HProp} (hs : C.P.underlying t = some (.slice el)) (he : C.P.underlying el = some (.int .u8)) (hx : evalE E x = some (.slice (some ⟨b, o, none⟩) n cap)) :
    OpV C (.convert t t x) ty E (Cel b T cs :: L) (.slice (some ⟨b, o, none⟩) n cap) (Cel b T cs :: L) := by
  intro d pos aft g a w ha hi
  obtain ⟨e0, hbl⟩ := hi.cel_block
  refine ⟨w.freeze ⟨b, cs.length, none⟩ 1, .inl ?_, ?_, fun h => by cases h⟩
  · simp [execOp, ha.eval hx, convert, run_underlying hs, run_underlying he, markStringish, World.shape?, hbl]
  · have hfr : (w.freeze ⟨b, cs.length, none⟩ 1).heap[b]? = some (.cells cs.toArray T (Mk true cs.length)) := by
      cases e0 <;> simp [World.freeze, Array.getElem?_modify, hbl, Mk]
    have hp := hi.put (w' := w.freeze ⟨b, cs.length, none⟩ 1) rfl rfl rfl (by simp [World.freeze]) hfr (fun k hk _ => by
      simp only [World.freeze, Nat.one_ne_zero, if_false, Array.getElem?_modify]
      rw [if_neg (Ne.symm hk)])
    exact hp.imp (fun h hh => ⟨true, hh⟩)
noncomputable def cvE (src : Nat) (P : Program) (s : St) (b o n c : Nat) : R1 := wo (elS P src) fun T => wb (isU8 P T) (wO s b fun _ => .ok (.sli b o n c) s)
noncomputable def cvV (src dst : Nat) (P : Program) (s : St) (v : SV) : R1 := match v with
  | .int _ n => wb (undB P src) (cvI dst P s n)
  | .str l => cvS src dst P s l
  | .sli b o n c => Bool.rec (cvB src dst P s b o n) (cvE src P s b o n c) (Nat.beq src dst)
  | .nils => cvN src dst P s
  | _ => .no
noncomputable def oConv (src dst : Nat) (x : Operand) : Fo := fun P _ e s => w1 x e (cvV src dst P s)
theorem cvV_ok {a : SV} {src dst : Nat} (h : cvV src dst C.P s a = .ok v s') : (∃ k n, a = .int k n ∧ undB C.P src = true ∧ cvI dst C.P s n = .ok v s') ∨ (∃ l, a = .str l ∧ cvS src dst C.P s l = .ok v s') ∨ (∃ b o n c, a = .sli b o n c ∧ cvB src dst C.P s b o n = .ok v s') ∨ (a = .nils ∧ cvN src dst C.P s = .ok v s') ∨ (∃ b o n c, a = .sli b o n c ∧ src = dst ∧ cvE src C.P s b o n c = .ok v s') := by
  unfold cvV at h
  split at h <;> try (cases h; done)
  · obtain ⟨g, h⟩ := wb_ok h; exact .inl ⟨_, _, rfl, g, h⟩
  · exact .inr (.inl ⟨_, rfl, h⟩)
  · rename_i b o n c
    cases hb : Nat.beq src dst with
    | false => rw [hb] at h; exact .inr (.inr (.inl ⟨_, _, _, _, rfl, h⟩))
    | true => rw [hb] at h; exact .inr (.inr (.inr (.inr ⟨_, _, _, _, rfl, Nat.eq_of_beq_eq_true hb, h⟩)))
  · exact .inr (.inr (.inr (.inl ⟨rfl, h⟩)))
theorem oConv_ok {call : Cl} {src dst : Nat} {x : Operand} : Sound C call (.convert src dst x) (oConv src dst x) := fun {e s s' v E ρ ty F} h hE hf => by
  obtain ⟨a, h1, h⟩ := w1_ok h
  obtain ⟨A, hx, hA⟩ := ev_ok hE h1
  have h0 := cvV_ok h
  clear h
  rcases h0 with ⟨k, n, rfl, g, h⟩ | ⟨l, rfl, h⟩ | ⟨b, o, n, c, rfl, h⟩ | ⟨rfl, h⟩ | ⟨b, o, n, c, rfl, rfl, hh⟩
  rotate_left 4
  · obtain ⟨T, h2, h⟩ := wo_ok hh
    obtain ⟨g2, h⟩ := wb_ok h
    obtain ⟨ob, hg, hid, h⟩ := wO_ok h
    cases h
    obtain ⟨z, hz, hAe⟩ := den_sli hA
    intro d pos aft g a w K Q ha hi hK
    obtain ⟨y', pre, vs, post, e1, e2, e3, e4, e5, hi1⟩ := inv_open hg hi
    have e1' := e1
    rw [hid, hz] at e1'
    cases e1'
    rw [hAe] at hx
    refine (v_convId (C := C) (ty := ty) (elS_ok h2) (isU8_ok g2) hx).x d pos aft g a w K Q ha hi1 ?_
    rintro V L' w' ⟨rfl, rfl⟩ hi2
    exact hK _ _ w' ⟨ρ, Ext.refl _, hf, hAe ▸ hA, fun w0 w hi => (Inv.imp (fun h hc => by rw [HO_c hg.2]; exact ⟨z, pre, vs, post, e1, e2, hc, e3, e4, e5⟩) hi : Inv w0 (HO ρ ob :: (denH ρ (s.h.set b none) ++ F)) w).perm ((H_get hg.1).append_right F).symm⟩ hi2
  · obtain ⟨k', h2, h⟩ := wo_ok h
    rw [fI_eq] at h
    cases h
    cases hA
    exact okV (v_conv g (kInt_ok h2) hx (wrap_eq _ _).symm) rfl hf
  · obtain ⟨g1, h⟩ := wb_ok h
    obtain ⟨T, h2, h⟩ := wo_ok h
    obtain ⟨g2, h⟩ := wb_ok h
    obtain ⟨g3, h⟩ := wb_ok h
    cases hA
    refine ok_new h hf ?_
    intro d pos aft g a w K Q ha hi hK
    refine x_convSR (T := T) (l := l.map Int.ofNat) (isStr_ok g1) (elS_ok h2) (isU8_ok g2) (by rw [← strV_nums]; exact hx) (bytB_int g3) d pos aft g a w K Q ha hi ?_
    rintro V L' w' ⟨b, c, rfl, rfl⟩ hi'
    have hi2 : Inv C.w0 (Sl (some ⟨b, 0, none⟩) (l.map Int.ofNat).length c T 1 ((l.map Int.ofNat).flatMap (ecI T .u8).e) :: (denH ρ s.h ++ F)) w' := Inv.imp (fun h hh => hh.2) hi'
    obtain ⟨b', o, pre, post, e1, e2, e3, e4, e5, hi3⟩ := sl_cel hi2 (by simp)
    cases e1
    rw [show (l.map Int.ofNat).flatMap (ecI T .u8).e = l.map (fun n : Nat => Value.int .u8 (n : Int)) from by rw [show (ecI T .u8).e = fun x => [Value.int .u8 x] from rfl, flat_u8, List.map_map]; rfl] at hi3
    simp only [List.length_map] at e4 e5 ⊢
    exact hK _ _ w' ⟨(b, 0, c - l.length), pre, _, post, bytesV_ok l, e2, e4, fun e => (by cases e), by simp only [den, Ren.put_self, Nat.add_zero]; rw [Nat.add_sub_cancel' e5], rfl⟩ hi3
  · obtain ⟨g1, h⟩ := wb_ok h
    obtain ⟨T, h2, h⟩ := wo_ok h
    obtain ⟨g2, h⟩ := wb_ok h
    obtain ⟨ob, hg, hid, h⟩ := wO_ok h
    obtain ⟨g3, h⟩ := wb_ok h
    obtain ⟨l, h3, h⟩ := wo_ok h
    cases h
    obtain ⟨z, hz, rfl⟩ := den_sli hA
    intro d pos aft g a w K Q ha hi hK
    obtain ⟨y', pre, vs, post, e1, e2, e3, e4, e5, _⟩ := inv_open hg hi
    have e1' := e1
    rw [hid, hz] at e1'
    cases e1'
    have hcut : dens ρ (cut ob.cs o n) = some ((vs.drop o).take n) := dens_take _ (dens_drop o e2)
    have hl : ((vs.drop o).take n).length = n := by rw [dens_len hcut]; exact lenIs_ok g3
    have hb := toB_ok h3 hcut
    have hln : (l.map Int.ofNat).length = n := by
      have := congrArg List.length hb
      rw [hl] at this
      simpa using this.symm
    refine okV (V := .string (strOfNums (l.map Int.ofNat))) (s_str (T := T) (elS_ok h2) (isU8_ok g2) (isStr_ok g1) hx ⟨HO ρ ob, List.mem_append_left _ ((H_get (ρ := ρ) hg.1).mem_iff.2 List.mem_cons_self), fun h hh => ⟨hln, ?_⟩⟩) (by simp [den, strV_nums]) hf d pos aft g a w K Q ha hi hK
    rw [show (l.map Int.ofNat).flatMap (ecI T .u8).e = (l.map Int.ofNat).map (Value.int .u8) from flat_u8 _, ← hb]
    have := HO_rd (o := o) (m := n) (sz := 1) hg.2 e1 e2 (by rw [Nat.mul_one]; exact hl) hh
    rw [Nat.mul_one] at this
    exact this
  · obtain ⟨g1, h⟩ := wb_ok h
    obtain ⟨T, h2, h⟩ := wo_ok h
    obtain ⟨g2, h⟩ := wb_ok h
    cases h
    cases hA
    intro d pos aft g a w K Q ha hi hK
    have hs := s_str (C := C) (E := E) (ty := ty) (L := Row (ecI T .u8) none 0 0 [] :: (denH ρ s.h ++ F)) (T := T) (l := []) (elS_ok h2) (isU8_ok g2) (isStr_ok g1) hx ⟨_, List.mem_cons_self, fun h hh => ⟨rfl, hh.2.rd⟩⟩
    refine hs.x d pos aft g a w K Q ha (hi.add0 (Row.nil _ _ _)) ?_
    rintro V' L' w' ⟨rfl, rfl⟩ hi'
    exact hK _ _ w' ⟨ρ, Ext.refl _, hf, by simp [den, strV_nums], fun w0 w hi => hi.tail⟩ hi'
def isSt (P : Program) (t : Nat) : Bool := isStr P t
theorem v_arrIxS {x y : Operand} {t n el i : Nat} {k : IntKind} {cs : Array Value} {V : Value} {L : List HProp} (ht : arrayB C.P t = some (n, el, 1)) (hs : scalarB C.P el = true) (hx : evalE E x = some (.agg cs)) (hy : evalE E y = some (.int k (i : Int))) (hn : i < n) (hv : cs[i]? = some V) : OpV C (.index t x y) ty E L V L :=
  pureV fun d pos aft g a w ha' => by
    obtain ⟨h1, i', h2, h3⟩ := array_spec ht
    have hlt : (i : Int) < (n : Int) := by omega
    simp [execOp, ha'.eval hx, ha'.eval hy, Instr.index, asIntOf, run_underlying h1, Go.Sl.run_sizeOf h2, h3, hlt, hn, part, run_isAgg_scalar hs, hv]
noncomputable def ixA (t : Nat) (P : Program) (s : St) (l : List SV) (i : Nat) : R1 := wo (arrayB P t) fun z => wb (Nat.beq z.2.2 1) (wb (scalarB P z.2.1) (wb (Nat.blt i z.1) (wo l[i]? fun v => .ok v s)))
noncomputable def ixV (t : Nat) (P : Program) (s : St) (v : SV) (i : Nat) : R1 := match v with
  | .agg l => ixA t P s l i
  | .str l => wb (isStr P t) (wb (bytB l) (wo l[i]? fun c => fN c fun c => .ok (.int .u8 (.ofNat c)) s))
  | _ => .no
noncomputable def oIx (t : Nat) (x y : Operand) : Fo := fun P _ e s => w1 x e fun a => w1 y e fun b => wo (nat? b) (ixV t P s a)
theorem oIx_ok {call : Cl} {t : Nat} {x y : Operand} : Sound C call (.index t x y) (oIx t x y) := fun {e s s' v E ρ ty F} h hE hf => by
  obtain ⟨a, h1, h⟩ := w1_ok h
  obtain ⟨b, h2, h⟩ := w1_ok h
  obtain ⟨i, h3, h⟩ := wo_ok h
  obtain ⟨A, hx, hA⟩ := ev_ok hE h1
  obtain ⟨B, hy, hB⟩ := ev_ok hE h2
  obtain ⟨k, rfl⟩ := nat_ok h3 hB
  unfold ixV at h
  split at h <;> try (cases h; done)
  · obtain ⟨⟨n, el, sz⟩, h4, h⟩ := wo_ok h
    obtain ⟨g1, h⟩ := wb_ok h
    obtain ⟨g2, h⟩ := wb_ok h
    obtain ⟨g3, h⟩ := wb_ok h
    obtain ⟨u, h5, h⟩ := wo_ok h
    cases h
    obtain rfl : sz = 1 := Nat.eq_of_beq_eq_true g1
    obtain ⟨vs, h6, rfl⟩ := den_agg hA
    obtain ⟨V, h7, h8⟩ := dens_get h6 h5
    exact okV (v_arrIxS h4 g2 hx hy (blt_lt g3) (by simpa using h7)) h8 hf
  obtain ⟨g1, h⟩ := wb_ok h
  obtain ⟨g2, h⟩ := wb_ok h
  obtain ⟨c, h4, h⟩ := wo_ok h
  rw [fN_eq] at h
  cases h
  cases hA
  have hlt := (List.getElem?_eq_some_iff.1 h4).1
  rename_i l _ _ _ _ _
  refine okV (v_strIx (l := l.map Int.ofNat) i (isStr_ok g1) (by rw [← strV_nums]; exact hx) hy (bytB_int g2) rfl (by simpa using hlt)) ?_ hf
  simp [den, List.getD_eq_getElem?_getD, h4]
noncomputable def cpO (s : St) (b o n b2 o2 : Nat) (ob : Ob) : R1 := wb (Nat.blt 0 n) <| wO s b2 fun ob2 => wb (lenIs n (cut ob2.cs o2 n)) (wb (ones (cut ob2.cs o2 n)) (wb (lenIs n (cut ob.cs o n)) (setsK (cut ob2.cs o2 n) ob.cs o (putO s b ob (.int .i64 (.ofNat n))))))
noncomputable def cpV (s : St) (x y : SV) : R1 := match x with
  | .sli b o dn _ => (match y with | .sli b2 o2 sn _ => wb (not (Nat.beq b b2)) (fN (minN sn dn) fun n => wO s b (cpO s b o n b2 o2)) | _ => .no)
  | _ => .no
noncomputable def cCopy : Fb := fun ts xs P e s => match ts with | [t, u] => (match xs with | [x, y] => wo (sliceB P t) fun z => wb (Nat.beq z.2.1 1) (w1 x e fun a => w1 y e fun b => cpV s a b) | _ => .no) | _ => .no
theorem cpV_ok {x y : SV} (h : cpV s x y = .ok v s') : ∃ b o dn dc b2 o2 sn sc ob ob2, x = .sli b o dn dc ∧ y = .sli b2 o2 sn sc ∧ b ≠ b2 ∧ Got s b ob ∧ ob.id = b ∧ Got s b2 ob2 ∧ ob2.id = b2 ∧ (cut ob2.cs o2 (min sn dn)).length = min sn dn ∧ ones (cut ob2.cs o2 (min sn dn)) = true ∧
    (cut ob.cs o (min sn dn)).length = min sn dn ∧ 0 < min sn dn ∧ v = .int .i64 (.ofNat (min sn dn)) ∧ s' = ⟨s.h.set b (some ⟨ob.id, ob.T, ob.sz, ob.ex, setsP ob.cs o (cut ob2.cs o2 (min sn dn))⟩), s.nx⟩ := by
  unfold cpV at h
  split at h <;> try (cases h; done)
  rename_i b o dn dc
  split at h <;> try (cases h; done)
  rename_i b2 o2 sn sc
  obtain ⟨gne, h⟩ := wb_ok h
  rw [fN_eq] at h
  obtain ⟨ob, hg, hid, h⟩ := wO_ok h
  obtain ⟨g0, h⟩ := wb_ok h
  obtain ⟨ob2, hg2, hid2, h⟩ := wO_ok h
  obtain ⟨g1, h⟩ := wb_ok h
  obtain ⟨g2, h⟩ := wb_ok h
  obtain ⟨g3, h⟩ := wb_ok h
  rw [setsK_eq] at h
  rw [minN_eq] at *
  cases h
  exact ⟨b, o, dn, dc, b2, o2, sn, sc, ob, ob2, rfl, rfl, fun e => (by subst e; rw [Nat.beq_refl] at gne; cases gne), hg, hid, hg2, hid2, lenIs_ok g1, g2, lenIs_ok g3, blt_lt g0, rfl, rfl⟩
theorem cCopy_ok : SoundB C .copy cCopy := fun {e s s' v E ρ ty F ts xs} h hE hf => by
  unfold cCopy at h
  split at h <;> try (cases h; done)
  split at h <;> try (cases h; done)
  rename_i t u _ _ x y
  obtain ⟨⟨T, sz, by_⟩, h1, h⟩ := wo_ok h
  obtain ⟨g0, h⟩ := wb_ok h
  obtain ⟨a, h3, h⟩ := w1_ok h
  obtain ⟨b, h4, h⟩ := w1_ok h
  obtain ⟨A, hx, hA⟩ := ev_ok hE h3
  obtain ⟨B, hy, hB⟩ := ev_ok hE h4
  obtain ⟨b1, o1, dn, dc, b2, o2, sn, sc, ob, ob2, rfl, rfl, hne, hg, hid, hg2, hid2, k1, k2, k3, k4, rfl, rfl⟩ := cpV_ok h
  have g0 : sz = 1 := Nat.eq_of_beq_eq_true g0
  subst g0
  obtain ⟨z, hz, rfl⟩ := den_sli hA
  obtain ⟨z2, hz2, rfl⟩ := den_sli hB
  intro d pos aft g a w K Q ha hi hK
  obtain ⟨y2, _, vs2, _, f1, f2, _, _, _, _⟩ := inv_open hg2 hi
  obtain ⟨y', pre, vs, post, e1, e2, e3, e4, e5, hi1⟩ := inv_open hg hi
  have e1' := e1
  rw [hid, hz] at e1'
  cases e1'
  have f1' := f1
  rw [hid2, hz2] at f1'
  cases f1'
  have hcut2 : dens ρ (cut ob2.cs o2 (min sn dn)) = some ((vs2.drop o2).take (min sn dn)) := dens_take _ (dens_drop o2 f2)
  have hl2 : ((vs2.drop o2).take (min sn dn)).length = min sn dn := by rw [dens_len hcut2]; exact k1
  have hvl := dens_len e2
  have hfit : o1 + min sn dn ≤ vs.length := by
    unfold cut at k3
    rw [List.length_take, List.length_drop] at k3
    omega
  have hmem : HO ρ ob2 ∈ denH ρ (s.h.set b1 none) := by
    refine (H_get (ρ := ρ) (b := b2) (o := ob2) ?_).mem_iff.2 List.mem_cons_self
    rw [Tr.get_set, if_neg (fun e => hne e.symm)]
    exact hg2.1
  have hsplit : pre ++ vs ++ post = (pre ++ vs.take o1) ++ (vs.drop o1).take (min sn dn) ++ (vs.drop (o1 + min sn dn) ++ post) := by
    have e1 : vs = vs.take o1 ++ ((vs.drop o1).take (min sn dn) ++ vs.drop (o1 + min sn dn)) := by
      conv => lhs; rw [← List.take_append_drop o1 vs, ← List.take_append_drop (min sn dn) (vs.drop o1), List.drop_drop]
    conv => lhs; rw [e1]
    simp only [List.append_assoc]
  rw [hsplit] at hi1
  have hpl : (pre ++ vs.take o1).length = z.2.1 + o1 := by rw [List.length_append, List.length_take]; omega
  have hR : ∀ h, HO ρ ob2 C.w0 h → Rd (some ⟨z2.1, z2.2.1 + o2, none⟩) (min sn dn) 1 ((vs2.drop o2).take (min sn dn)) C.w0 h := fun h hh => by
    have := HO_rd (o := o2) (m := min sn dn) (sz := 1) hg2.2 f1 f2 (by rw [Nat.mul_one]; exact hl2) hh
    rw [Nat.mul_one] at this
    exact this
  refine x_copyC (elem := T) (by_ := by_) (n := min sn dn) (R := HO ρ ob2) h1 hx hy Rem.head (List.mem_append_left _ hmem) hR hpl rfl (by rw [List.length_take, List.length_drop]; omega) (ones_ok k2 hcut2) d pos aft g a w K Q ha hi1 ?_
  rintro V L' w' ⟨rfl, rfl⟩ hi'
  have hset := dens_sets o1 e2 hcut2 (by rw [hl2]; exact hfit)
  rw [hl2] at hset
  have hi2 : Inv C.w0 (Cel z.1 ob.T (pre ++ (vs.take o1 ++ (vs2.drop o2).take (min sn dn) ++ vs.drop (o1 + min sn dn)) ++ post) :: (denH ρ (s.h.set b1 none) ++ F)) w' := by
    simpa only [List.append_assoc] using hi'
  exact hK _ _ w' ⟨ρ, Ext.refl _, hf, rfl, Sub.refl _⟩ (inv_close (ob := ⟨ob.id, ob.T, ob.sz, ob.ex, setsP ob.cs o1 (cut ob2.cs o2 (min sn dn))⟩) (t := s.h) (b := b1) hg.2 e1 hset e3 e4 e5 hi2)
end
end Go.Cr
namespace Go.Cr
open Go.Sl
theorem Inv.allocB {w0 w : World} {L : List HProp} (hi : Inv w0 L w) (o' : Obj) : Inv w0 (Blk w.heap.size o' :: L) (w.alloc o') := by
  obtain ⟨hb, h, a, k⟩ := hi
  have hd : Hp.disj (fun b => if b = w.heap.size then some o' else none) h := fun n => by
    by_cases e : n = w.heap.size
    · right
      cases hn : h n with
      | none => rfl
      | some o =>
        have := (a n o hn).2
        rw [e] at this
        simp at this
    · left; simp [e]
  refine ⟨hb.alloc hb.size _, Hp.join _ h, ?_, _, h, hd, Hp.le_join_left _ _, Hp.le_join_right hd, by simp [Blk], k⟩
  intro b o e
  unfold Hp.join at e
  by_cases hbs : b = w.heap.size
  · subst hbs
    simp at e
    subst e
    exact ⟨hb.size, by show (w.heap.push _)[w.heap.size]? = _; simp⟩
  · simp [hbs] at e
    obtain ⟨g1, g2⟩ := a b o e
    refine ⟨g1, ?_⟩
    show (w.heap.push _)[b]? = _
    rw [Array.getElem?_push, if_neg hbs]
    exact g2
theorem Inv.blk {w0 w : World} {b : Nat} {o : Obj} {L : List HProp} (hi : Inv w0 (Blk b o :: L) w) : w.heap[b]? = some o :=
  let ⟨_, _, a, _, _, _, l1, _, p, _⟩ := hi; (a _ _ (l1 _ _ p)).2
theorem Inv.putB {w0 w w' : World} {b : Nat} {o o' : Obj} {L : List HProp} (hi : Inv w0 (Blk b o :: L) w)
    (hos : w'.os = w.os) (ht : w'.tape = w.tape) (ho : w'.output = w.output) (hs : w.heap.size ≤ w'.heap.size)
    (hblk : w'.heap[b]? = some o') (hoth : ∀ k, k ≠ b → k < w.heap.size → w'.heap[k]? = w.heap[k]?) : Inv w0 (Blk b o' :: L) w' := by
  obtain ⟨hb, h, a, h1, h2, d, l1, l2, p, k⟩ := hi
  have hge : w0.heap.size ≤ b := (a _ _ (l1 _ _ p)).1
  have hlt : ∀ j o, w.heap[j]? = some o → j < w.heap.size := fun j o e => by
    rcases Nat.lt_or_ge j w.heap.size with h | h
    · exact h
    · simp [Array.getElem?_eq_none h] at e
  have hd : Hp.disj (fun n => if n = b then some o' else none) h2 := fun n => by
    by_cases e : n = b
    · right
      rcases d n with x | x
      · rw [e] at x; rw [show h1 b = some o from p] at x; cases x
      · exact x
    · left; simp [e]
  refine ⟨hb.trans ⟨hos, ht, ho, hs, fun j hj => ?_⟩, Hp.join _ h2, ?_, _, h2, hd, Hp.le_join_left _ _, Hp.le_join_right hd, by simp [Blk], k⟩
  · have := hb.size
    exact hoth j (by omega) (by omega)
  · intro j o e
    unfold Hp.join at e
    by_cases hj : j = b
    · subst hj
      simp at e
      subst e
      exact ⟨hge, hblk⟩
    · simp [hj] at e
      obtain ⟨g1, g2⟩ := a j o (l2 j o e)
      exact ⟨g1, by rw [hoth j hj (hlt j o g2)]; exact g2⟩
section
variable {C : Ctx} {ty : TypeId} {E : Env} {ρ : Ren} {s s' s1 : St} {v : SV} {V : Value} {F : List HProp} {e : En} {w0 w : World} {P : Program}
abbrev mO (vs : List Value) : Obj := .map (ents vs 0).toArray (ents vs 0).length
theorem HO_4 {o : Ob} (h : o.T = 4294967296) : HO ρ o = HOm ρ o := HO_m (by rw [h]; rfl) (by rw [h]; rfl)
theorem open_m {ob : Ob} {b : Nat} (hg : s.h.get b = some ob) (hT : ob.T = 4294967296) (hi : Inv w0 (denH ρ s.h ++ F) w) : ∃ x vs, ρ ob.id = some x ∧ dens ρ ob.cs = some vs ∧ Inv w0 (Blk x.1 (mO vs) :: (denH ρ (s.h.set b none) ++ F)) w := by
  have h1 := hi.perm ((H_get (ρ := ρ) hg).append_right F)
  rw [HO_4 hT] at h1
  obtain ⟨⟨x, vs⟩, ⟨a, b⟩, h2⟩ := Inv.opn (A := HOm ρ ob) (ι := (Nat × Nat × Nat) × List Value) (K := fun z => ρ ob.id = some z.1 ∧ dens ρ ob.cs = some z.2) (B := fun z => [Blk z.1.1 (mO z.2)])
    (fun h ⟨x, vs, a, b, c⟩ => ⟨(x, vs), ⟨a, b⟩, h, fun _ => none, fun _ => .inr rfl, Hp.le_refl _, fun _ _ e => (by simp at e), c, trivial⟩) h1
  exact ⟨x, vs, a, b, h2⟩
theorem close_m {ob : Ob} {t : Tr Ob} {b : Nat} {x : Nat × Nat × Nat} {vs : List Value} (hT : ob.T = 4294967296) (h1 : ρ ob.id = some x) (h2 : dens ρ ob.cs = some vs)
    (hi : Inv w0 (Blk x.1 (mO vs) :: (denH ρ (t.set b none) ++ F)) w) : Inv w0 (denH ρ (t.set b (some ob)) ++ F) w := by
  refine Inv.perm ?_ ((H_set (ρ := ρ) t b ob).append_right F).symm
  rw [HO_4 hT]
  exact Inv.imp (fun h hc => ⟨x, vs, h1, h2, hc⟩) hi
noncomputable def newM (s : St) : R1 := fN s.nx fun n => .ok (.mp n) ⟨s.h.set n (some ⟨n, 4294967296, 1, true, []⟩), Nat.succ n⟩
noncomputable def oMkM (t : Nat) (r : Option Operand) : Fo := fun _ _ _ s => Option.rec (newM s) (fun _ => .no) r
theorem oMkM_ok {call : Cl} {t : Nat} {r : Option Operand} : Sound C call (.makeMap t r) (oMkM t r) := fun {e s s' v E ρ ty F} h hE hf => by
  cases r with
  | some x => cases h
  | none =>
    have h : newM s = .ok v s' := h
    unfold newM at h
    rw [fN_eq] at h
    cases h
    intro d pos aft g a w K Q ha hi hK
    unfold Oper.wp
    have hr : (execOp a.eval ⟨d, .makeMap t none, ty, pos, aft, g⟩).run C.P w = .ok (.value (.map (some w.heap.size))) (w.alloc (.map #[] 0)) := by
      simp [execOp, Instr.makeMap]
    rw [hr]
    have k := Ren.put_ext (w.heap.size, 0, 0) hf
    refine hK _ _ (w.alloc (.map #[] 0)) ⟨ρ.put s.nx (w.heap.size, 0, 0), k, Ren.put_fr _ hf, by simp [den, Ren.put_self], Sub.refl _⟩ ?_
    refine close_m (x := (w.heap.size, 0, 0)) (vs := []) rfl (Ren.put_self _) rfl ?_
    have h1 := Inv.allocB hi (.map #[] 0)
    have h2 := (sub_out (ρ := ρ) s.h s.nx (Blk w.heap.size (.map #[] 0) :: F)) _ _ (h1.perm List.perm_middle.symm)
    exact ((sub_ext k _ _) _ _ h2).perm List.perm_middle
def mapB (P : Program) (t : Nat) : Option (Nat × Nat) := match P.underlying t with | some (.map k e) => some (k, e) | _ => none
theorem mapB_ok {t : Nat} {x : Nat × Nat} (h : mapB P t = some x) : P.underlying t = some (.map x.1 x.2) := by
  unfold mapB at h
  split at h
  · rename_i h2; cases h; exact h2
  · cases h
inductive Ky | num (k : IntKind) (n : Int) | nums (k : IntKind) (l : List Int)
noncomputable def kyN (P : Program) (t : Nat) (k : IntKind) (m : Int) : Option Ky := Option.rec none (fun j => Bool.rec none (some (.num k m)) (eqK k j)) (kindI P t)
noncomputable def kyA (P : Program) (t : Nat) (l : List SV) : Option Ky := Option.rec none (fun z => Option.rec none (fun k => Option.rec none (fun as => Bool.rec none (some (.nums k as)) (Nat.beq z.2.2 1 && (scalarB P z.2.1 && (Nat.beq as.length z.1)))) (intsK k l)) (kindI P z.2.1)) (arrayB P t)
noncomputable def kyOf (P : Program) (t : Nat) (v : SV) : Option Ky := match v with | .int k m => kyN P t k m | .agg l => kyA P t l | _ => none
def kyV : Ky → Value
  | .num k n => .int k n
  | .nums k l => .agg (l.map (Value.int k)).toArray
def KyT (P : Program) (t : Nat) : Ky → Prop
  | .num k _ => P.underlying t = some (.int k)
  | .nums k l => ∃ n el, arrayB P t = some (n, el, 1) ∧ P.underlying el = some (.int k) ∧ scalarB P el = true ∧ l.length = n
theorem kyOf_ok {t : Nat} {y : Ky} (h : kyOf P t v = some y) : KyT P t y ∧ ∀ {ρ V}, den ρ v = some V → V = kyV y := by
  unfold kyOf at h
  split at h
  · rename_i k m
    unfold kyN at h
    cases hk : kindI P t with
    | none => rw [hk] at h; cases h
    | some j =>
      rw [hk] at h
      have h : Bool.rec (motive := fun _ => Option Ky) none (some (.num k m)) (eqK k j) = some y := h
      cases he : eqK k j with
      | false => rw [he] at h; cases h
      | true =>
        rw [he] at h
        cases h
        obtain rfl := eqK_eq he
        exact ⟨kindI_ok hk, fun hd => by cases hd; rfl⟩
  · rename_i l
    unfold kyA at h
    cases ha : arrayB P t with
    | none => rw [ha] at h; cases h
    | some z =>
      obtain ⟨n, el, sz⟩ := z
      rw [ha] at h
      have h : Option.rec (motive := fun _ => Option Ky) none (fun k => Option.rec (motive := fun _ => Option Ky) none (fun as => Bool.rec (motive := fun _ => Option Ky) none (some (.nums k as)) (Nat.beq sz 1 && (scalarB P el && (Nat.beq as.length n)))) (intsK k l)) (kindI P el) = some y := h
      cases hk : kindI P el with
      | none => rw [hk] at h; cases h
      | some k =>
        rw [hk] at h
        have h : Option.rec (motive := fun _ => Option Ky) none (fun as => Bool.rec (motive := fun _ => Option Ky) none (some (.nums k as)) (Nat.beq sz 1 && (scalarB P el && (Nat.beq as.length n)))) (intsK k l) = some y := h
        cases hi : intsK k l with
        | none => rw [hi] at h; cases h
        | some as =>
          rw [hi] at h
          have h : Bool.rec (motive := fun _ => Option Ky) none (some (.nums k as)) (Nat.beq sz 1 && (scalarB P el && (Nat.beq as.length n))) = some y := h
          cases hb : (Nat.beq sz 1 && (scalarB P el && (Nat.beq as.length n))) with
          | false => rw [hb] at h; cases h
          | true =>
            rw [hb] at h
            cases h
            simp only [Bool.and_eq_true] at hb
            obtain ⟨b1, b2, b3⟩ := hb
            obtain rfl : sz = 1 := Nat.eq_of_beq_eq_true b1
            refine ⟨⟨n, el, ha, kindI_ok hk, b2, Nat.eq_of_beq_eq_true b3⟩, fun {ρ V} hd => ?_⟩
            obtain ⟨vs, h1, rfl⟩ := den_agg hd
            rw [intsK_ok hi ρ] at h1
            cases h1
            rfl
  · cases h
def eqKy : Ky → Ky → Option Bool
  | .num k m, .num j n => cond (eqK k j) (some (eqI m n)) none
  | .nums k l, .nums j m => cond (eqK k j) (some (eqIL l m)) none
  | _, _ => none
theorem check_ky {t : Nat} {y : Ky} (h : KyT P t y) (em : Bool) (n : Nat) (w : World) : (Instr.checkKey em (n + 2) t (kyV y)).run P w = .ok () w := by
  cases y with
  | num k m =>
    have h : P.underlying t = some (.int k) := h
    simp [kyV, Instr.checkKey, run_underlying h]
  | nums k l =>
    obtain ⟨N, el, h1, h2, h3, h4⟩ := h
    obtain ⟨g1, i, g2, g3⟩ := array_spec h1
    rw [kyV, Instr.checkKey]
    simp only [Sem.run_bind, run_underlying g1, Result.andThen_ok]
    simp only [Std.Legacy.Range.forIn_eq_forIn_range', Std.Legacy.Range.size, Nat.sub_zero, Nat.add_one_sub_one, Nat.div_one]
    have each : ∀ j ∈ List.range' 0 N, ∃ m, (l.map (Value.int k)).toArray[j]? = some (.int k m) := by
      intro j hj
      rw [List.mem_range'_1] at hj
      have : j < l.length := by omega
      exact ⟨l[j], by simp [this]⟩
    generalize List.range' 0 N = is at each
    induction is with
    | nil => simp
    | cons j is ih =>
      obtain ⟨m, hm⟩ := each j (by simp)
      have p1 : (part el (l.map (Value.int k)).toArray (j * i.size)).run P w = .ok (.int k m) w := by simp [part, run_isAgg_scalar h3, g3, hm]
      have p2 : (Instr.checkKey em (n + 1) el (.int k m)).run P w = .ok () w := by simp [Instr.checkKey, run_underlying h2]
      simp only [List.forIn_cons, Sem.run_bind, Go.Sl.run_sizeOf g2, Result.andThen_ok, p1, p2, Sem.run_pure]
      exact ih (fun y hy => each y (by simp [hy]))
theorem equal_ky {t : Nat} {y z : Ky} {b : Bool} (hy : KyT P t y) (hz : KyT P t z) (h : eqKy y z = some b) (w : World) : (Op.equal t (kyV y) (kyV z)).run P w = .ok b w := by
  cases y with
  | num k m =>
    cases z with
    | nums j l => cases h
    | num j n =>
      have h : cond (eqK k j) (some (eqI m n)) none = some b := h
      cases hk : eqK k j with
      | false => rw [hk] at h; cases h
      | true =>
        rw [hk] at h
        cases h
        obtain rfl := eqK_eq hk
        have hy : P.underlying t = some (.int k) := hy
        have key : ∀ d, (Op.equalIn (d + 1) t (.int k m) (.int k n)).run P w = .ok (eqI m n) w := by
          intro d
          simp [Op.equalIn, run_underlying hy, eqI_eq]
          rw [Bool.eq_iff_iff]; simp
        exact key 9999
  | nums k l =>
    cases z with
    | num j n => cases h
    | nums j m =>
      have h : cond (eqK k j) (some (eqIL l m)) none = some b := h
      cases hk : eqK k j with
      | false => rw [hk] at h; cases h
      | true =>
        rw [hk] at h
        cases h
        obtain rfl := eqK_eq hk
        obtain ⟨N, el, h1, h2, h3, h4⟩ := hy
        obtain ⟨N', el', k1, k2, k3, k4⟩ := hz
        rw [h1] at k1
        cases k1
        obtain ⟨g1, i, g2, g3⟩ := array_spec h1
        have hc : P.cellsOf el = 1 := by simp [Program.cellsOf, g2, g3]
        rw [Op.equal, Op.maxDepth, show (10000 : Nat) = 9999 + 1 from rfl, kyV, kyV, run_equalIn_array w 9999 _ _ g1 g2, hc, show (9999 : Nat) = 9998 + 1 from rfl]
        rw [run_eqItems_int h2 h3 _ _ (fun j => l.getD j 0) (fun j => m.getD j 0) (List.range N) (fun j hj => ?_)]
        · congr 1
          rw [eqIL_eq, Bool.eq_iff_iff, List.all_eq_true, decide_eq_true_eq]
          constructor
          · intro h
            apply List.ext_getElem (by omega)
            intro j j1 j2
            have := h j (List.mem_range.2 (by omega))
            rw [decide_eq_true_eq] at this
            simpa [List.getD_eq_getElem?_getD, j1, j2] using this
          · rintro rfl j _
            simp
        · have hj := List.mem_range.1 hj
          have h4 : j < l.length := by omega
          have h5 : j < m.length := by omega
          simp [List.getD_eq_getElem?_getD, h4, h5]
theorem now_ky {t : Nat} {y z : Ky} {b : Bool} {dsc : TypeDesc} (hd : P.underlying t = some dsc) (hy : KyT P t y) (h : eqKy y z = some b) : (∃ k m, y = .num k m ∧ Instr.sameNow dsc (kyV y) (kyV z) = some b) ∨ (∃ k l, y = .nums k l ∧ ∀ v, Instr.sameNow dsc (kyV y) v = none) := by
  cases y with
  | num k m =>
    have hy : P.underlying t = some (.int k) := hy
    rw [hd] at hy
    cases hy
    cases z with
    | nums j l => cases h
    | num j n =>
      have h : cond (eqK k j) (some (eqI m n)) none = some b := h
      cases hk : eqK k j with
      | false => rw [hk] at h; cases h
      | true =>
        rw [hk] at h
        cases h
        obtain rfl := eqK_eq hk
        refine .inl ⟨k, m, rfl, ?_⟩
        simp [kyV, Instr.sameNow, eqI_eq]
        rw [Bool.eq_iff_iff]; simp
  | nums k l => exact .inr ⟨k, l, rfl, fun v => by cases dsc <;> rfl⟩
noncomputable def findL (P : Program) (t : Nat) (y : Ky) : List SV → Nat → Option (Option (Nat × SV))
  | [], _ => some none
  | k :: v :: l, i => (match kyOf P t k with | some z => (match eqKy y z with | some true => some (some (i, v)) | some false => findL P t y l (Nat.succ i) | none => none) | none => none)
  | [_], _ => none
theorem eqKy_eq {y z : Ky} (h : eqKy y z = some true) : kyV y = kyV z := by
  cases y with
  | num k m =>
    cases z with
    | nums j l => cases h
    | num j n =>
      have h2 : cond (eqK k j) (some (eqI m n)) none = some true := h
      clear h
      cases hk : eqK k j with
      | false => rw [hk] at h2; cases h2
      | true =>
        rw [hk] at h2
        obtain rfl := eqK_eq hk
        have h3 : eqI m n = true := Option.some.inj h2
        rw [eqI_eq] at h3
        rw [of_decide_eq_true h3]
  | nums k l =>
    cases z with
    | num j n => cases h
    | nums j m =>
      have h2 : cond (eqK k j) (some (eqIL l m)) none = some true := h
      clear h
      cases hk : eqK k j with
      | false => rw [hk] at h2; cases h2
      | true =>
        rw [hk] at h2
        obtain rfl := eqK_eq hk
        have h3 : eqIL l m = true := Option.some.inj h2
        rw [eqIL_eq] at h3
        rw [of_decide_eq_true h3]
def RR (ρ : Ren) (y : Ky) (vs : List Value) (n i : Nat) : Option (Nat × SV) → Option (Nat × Value) → Prop
  | none, none => vs.length = 2 * (ents vs n).length
  | some (j, v), some (j', V) => j = j' ∧ den ρ v = some V ∧ ∃ q b, j = i + q ∧ (ents vs n)[q]? = some ⟨kyV y, V, b⟩
  | _, _ => False
theorem findL_ok {t : Nat} {y : Ky} {dsc : TypeDesc} (hd : P.underlying t = some dsc) (hy : KyT P t y) (w : World) : ∀ {cs : List SV} {vs : List Value} {r : Option (Nat × SV)} (i n : Nat), findL P t y cs i = some r → dens ρ cs = some vs →
    ∃ R, RR ρ y vs n i r R ∧ (Instr.findAsking t (kyV y) (ents vs n) i).run P w = .ok R w ∧ (Instr.findNow dsc (kyV y) (ents vs n) i = some R ∨ Instr.findNow dsc (kyV y) (ents vs n) i = none)
  | [], vs, r, i, n, h, hv => by
    cases hv
    unfold findL at h
    cases h
    exact ⟨none, rfl, by simp [ents, Instr.findAsking], .inl rfl⟩
  | [_], vs, r, i, n, h, hv => by unfold findL at h; cases h
  | k :: v :: l, vs, r, i, n, h, hv => by
    unfold findL at h
    obtain ⟨K, us, rfl, k1, k2⟩ := dens_cons hv
    obtain ⟨V, us, rfl, k3, k4⟩ := dens_cons k2
    split at h <;> try (cases h; done)
    rename_i z hz
    obtain ⟨z1, z2⟩ := kyOf_ok hz
    obtain rfl := z2 k1
    split at h <;> try (cases h; done)
    · rename_i he
      cases h
      have e1 := equal_ky hy z1 he w
      refine ⟨some (i, V), ⟨rfl, k3, 0, n, rfl, by rw [eqKy_eq he]; rfl⟩, by simp [ents, Instr.findAsking, e1], ?_⟩
      rcases now_ky hd hy he with ⟨k, m, rfl, g⟩ | ⟨k, l, rfl, g⟩
      · exact .inl (by simp [ents, Instr.findNow, g])
      · exact .inr (by simp [ents, Instr.findNow, g])
    · rename_i he
      have e1 := equal_ky hy z1 he w
      obtain ⟨R, r1, r2, r3⟩ := findL_ok hd hy w (i + 1) (n + 1) h k4
      refine ⟨R, ?_, by simp [ents, Instr.findAsking, e1, r2], ?_⟩
      · cases r with
        | none =>
          cases R with
          | none =>
            have r1 : us.length = 2 * (ents us (n + 1)).length := r1
            show (_ :: _ :: us).length = 2 * (ents (_ :: _ :: us) n).length
            simp only [ents, List.length_cons]
            omega
          | some _ => exact r1
        | some a =>
          cases R with
          | none => exact r1
          | some b =>
            obtain ⟨q1, q2, q, b', q3, q4⟩ := r1
            exact ⟨q1, q2, q + 1, b', by omega, by simpa [ents] using q4⟩
      · rcases now_ky hd hy he with ⟨k, m, rfl, g⟩ | ⟨k, l, rfl, g⟩
        · rcases r3 with r3 | r3
          · exact .inl (by simp [ents, Instr.findNow, g, r3])
          · exact .inr (by simp [ents, Instr.findNow, g, r3])
        · exact .inr (by simp [ents, Instr.findNow, g])
theorem findKey_ok {t : Nat} {y : Ky} (hy : KyT P t y) (w : World) {cs : List SV} {vs : List Value} {r : Option (Nat × SV)} (h : findL P t y cs 0 = some r) (hv : dens ρ cs = some vs) :
    ∃ R, RR ρ y vs 0 0 r R ∧ (Instr.findKey t (kyV y) (ents vs 0)).run P w = .ok R w := by
  have hd : ∃ dsc, P.underlying t = some dsc := by
    cases y with
    | num k m => exact ⟨_, hy⟩
    | nums k l => obtain ⟨N, el, h1, _⟩ := hy; obtain ⟨g1, _⟩ := array_spec h1; exact ⟨_, g1⟩
  obtain ⟨dsc, hd⟩ := hd
  obtain ⟨R, r1, r2, r3⟩ := findL_ok hd hy w 0 0 h hv
  refine ⟨R, r1, ?_⟩
  rcases r3 with r3 | r3 <;> simp [Instr.findKey, run_underlying hd, r3, r2]
theorem ents_len : ∀ (vs : List Value) (n : Nat), (ents vs n).length = vs.length / 2
  | [], n => rfl
  | [_], n => by simp [ents]
  | k :: v :: l, n => by simp only [ents, List.length_cons, ents_len l (n + 1)]; omega
theorem ents_push : ∀ (vs : List Value) (n : Nat) (k v : Value), vs.length = 2 * (ents vs n).length → ents (vs ++ [k, v]) n = ents vs n ++ [⟨k, v, n + (ents vs n).length⟩]
  | [], n, k, v, _ => rfl
  | [_], n, k, v, h => by simp [ents] at h
  | a :: b :: l, n, k, v, h => by
    simp only [ents, List.length_cons] at h
    simp only [List.cons_append, ents, List.length_cons, ents_push l (n + 1) k v (by omega)]
    congr 3
    simp; omega
theorem ents_set : ∀ (vs : List Value) (n q : Nat) (K V U : Value) (b : Nat), (ents vs n)[q]? = some ⟨K, V, b⟩ → ents (vs.set (2 * q + 1) U) n = (ents vs n).modify q fun e => { e with key := K, val := U }
  | [], n, q, K, V, U, b, h => by cases h
  | [_], n, q, K, V, U, b, h => by cases h
  | a :: c :: l, n, 0, K, V, U, b, h => by
    simp [ents] at h
    obtain ⟨rfl, rfl, rfl⟩ := h
    simp [ents]
  | a :: c :: l, n, q + 1, K, V, U, b, h => by
    have h : (ents l (n + 1))[q]? = some ⟨K, V, b⟩ := by simpa [ents] using h
    have := ents_set l (n + 1) q K V U b h
    rw [show 2 * (q + 1) + 1 = (2 * q + 1) + 1 + 1 by omega]
    simp [ents, this]
theorem bits_ky (y : Ky) (n : Nat) : Instr.sameBits (n + 1) (kyV y) (kyV y) = true := by
  cases y with
  | num k m => simp [kyV, Instr.sameBits]
  | nums k l =>
    simp only [kyV, Instr.sameBits, beq_self_eq_true, Bool.true_and, List.all_eq_true]
    rintro ⟨a, b⟩ hab
    have hz : ∀ (l : List Value) (x y : Value), (x, y) ∈ l.zip l → x = y ∧ x ∈ l := by
      intro l
      induction l with
      | nil => intro x y h; cases h
      | cons a l ih =>
        intro x y h
        rw [List.zip_cons_cons] at h
        rcases List.mem_cons.1 h with h | h
        · cases h; exact ⟨rfl, List.mem_cons_self⟩
        · obtain ⟨h1, h2⟩ := ih x y h; exact ⟨h1, List.mem_cons_of_mem _ h2⟩
    obtain ⟨rfl, hm⟩ := hz _ _ _ hab
    simp only [List.mem_map] at hm
    obtain ⟨m, _, rfl⟩ := hm
    simp [Instr.sameBits]
noncomputable def wM (s : St) (b : Nat) (k : Ob → R1) : R1 := wo (s.h.get b) fun ob => wb (Nat.beq ob.id b) (wb (Nat.beq ob.T 4294967296) (k ob))
theorem wM_ok {b : Nat} {k : Ob → R1} (h : wM s b k = .ok v s') : ∃ ob, s.h.get b = some ob ∧ ob.id = b ∧ ob.T = 4294967296 ∧ k ob = .ok v s' := by
  obtain ⟨ob, h1, h⟩ := wo_ok h
  obtain ⟨h2, h⟩ := wb_ok h
  obtain ⟨h3, h⟩ := wb_ok h
  exact ⟨ob, h1, Nat.eq_of_beq_eq_true h2, Nat.eq_of_beq_eq_true h3, h⟩
def zV (P : Program) (t : Nat) : Option SV := match P.info? t with | some i => (match i.zero with | some z => ofV 100000 z | none => none) | none => none
theorem zV_ok {t : Nat} {z : SV} (h : zV P t = some z) : ∃ Z, (∀ ρ, den ρ z = some Z) ∧ ∀ w, (zeroValue t).run P w = .ok Z w := by
  unfold zV at h
  split at h <;> try (cases h; done)
  rename_i i hi
  split at h <;> try (cases h; done)
  rename_i Z hZ
  exact ⟨Z, fun ρ => ofV_ok _ Z z h, fun w => by simp [zeroValue, typeInfo, hi, hZ]⟩
noncomputable def lkZ (ok : Bool) (b : Bool) (v : SV) : SV := Bool.rec v (.tup [v, .bool b]) ok
noncomputable def lkR (s : St) (ok : Bool) (z : SV) (r : Option (Nat × SV)) : R1 := Option.rec (.ok (lkZ ok false z) s) (fun x => .ok (lkZ ok true x.2) s) r
noncomputable def lkV (P : Program) (t : Nat) (ok : Bool) (s : St) (y : Ky) (z : SV) (m : SV) : R1 := match m with
  | .mp b => wM s b fun ob => wo (findL P t y ob.cs 0) (lkR s ok z)
  | .nilm => .ok (lkZ ok false z) s
  | _ => .no
noncomputable def oLk (t : Nat) (x y : Operand) (ok : Bool) : Fo := fun P _ e s => w1 x e fun m => w1 y e fun k => wo (mapB P t) fun ke => wo (kyOf P ke.1 k) fun y => wo (zV P ke.2) fun z => lkV P ke.1 ok s y z m
theorem lkZ_ok {ok b : Bool} {V : Value} (h : den ρ v = some V) : den ρ (lkZ ok b v) = some (if ok then .tuple #[V, .bool b] else V) := by
  cases ok <;> simp [lkZ, den, dens, h]
theorem oLk_ok {call : Cl} {t : Nat} {x y : Operand} {ok : Bool} : Sound C call (.lookup t x y ok) (oLk t x y ok) := fun {e s s' v E ρ ty F} h hE hf => by
  obtain ⟨m, h1, h⟩ := w1_ok h
  obtain ⟨k, h2, h⟩ := w1_ok h
  obtain ⟨⟨kt, et⟩, h3, h⟩ := wo_ok h
  obtain ⟨y', h4, h⟩ := wo_ok h
  obtain ⟨z, h5, h⟩ := wo_ok h
  obtain ⟨M, hx, hM⟩ := ev_ok hE h1
  obtain ⟨K, hy, hK⟩ := ev_ok hE h2
  obtain ⟨g1, g2⟩ := kyOf_ok h4
  obtain rfl := g2 hK
  obtain ⟨Z, hZ1, hZ2⟩ := zV_ok h5
  have ht := mapB_ok h3
  have hck : ∀ em w, (Instr.checkKey em 10000 kt (kyV y')).run C.P w = .ok () w := fun em w => check_ky g1 em 9998 w
  unfold lkV at h
  split at h <;> try (cases h; done)
  · rename_i b
    obtain ⟨ob, hg, hid, hT, h⟩ := wM_ok h
    obtain ⟨r, h6, h⟩ := wo_ok h
    simp only [den] at hM
    split at hM <;> try (cases hM; done)
    rename_i q hq
    cases hM
    intro d pos aft gd a w K Q ha hi hK'
    obtain ⟨x', vs, e1, e2, hi1⟩ := open_m hg hT hi
    rw [hid, hq] at e1
    cases e1
    have hb := Inv.blk hi1
    obtain ⟨R, r1, r2⟩ := findKey_ok g1 w h6 e2
    have hget : (getObj q.1).run C.P w = .ok (mO vs) w := by simp [getObj, Sem.run, hb]
    have hrun : ∃ V, den ρ v = some V ∧ s' = s ∧ (execOp a.eval ⟨d, .lookup t x y ok, ty, pos, aft, gd⟩).run C.P w = .ok (.value V) w := by
      cases r with
      | none =>
        cases R with
        | some _ => exact r1.elim
        | none =>
          cases h
          exact ⟨_, lkZ_ok (hZ1 ρ), rfl, by simp [execOp, ha.eval hx, ha.eval hy, Instr.lookup, run_underlying ht, hget, mO, hck, r2, hZ2]⟩
      | some p =>
        cases R with
        | none => exact r1.elim
        | some p' =>
          obtain ⟨j, v'⟩ := p
          obtain ⟨j', V'⟩ := p'
          obtain ⟨rfl, q2, _⟩ := r1
          cases h
          exact ⟨_, lkZ_ok q2, rfl, by simp [execOp, ha.eval hx, ha.eval hy, Instr.lookup, run_underlying ht, hget, mO, hck, r2]⟩
    obtain ⟨V, q1, rfl, q2⟩ := hrun
    unfold Oper.wp
    rw [q2]
    exact hK' _ _ w ⟨ρ, Ext.refl _, hf, q1, Sub.refl _⟩ hi
  · cases h
    cases hM
    intro d pos aft gd a w K Q ha hi hK'
    have hfk : (Instr.findKey kt (kyV y') []).run C.P w = .ok none w := by
      obtain ⟨R, r1, r2⟩ := findKey_ok (ρ := ρ) g1 w (cs := []) (vs := []) (r := none) (by unfold findL; rfl) rfl
      cases R with
      | none => exact r2
      | some _ => exact r1.elim
    have q2 : (execOp a.eval ⟨d, .lookup t x y ok, ty, pos, aft, gd⟩).run C.P w = .ok (.value (if ok then .tuple #[Z, .bool false] else Z)) w := by
      simp [execOp, ha.eval hx, ha.eval hy, Instr.lookup, run_underlying ht, hck, hfk, hZ2]
    unfold Oper.wp
    rw [q2]
    exact hK' _ _ w ⟨ρ, Ext.refl _, hf, lkZ_ok (hZ1 ρ), Sub.refl _⟩ hi
noncomputable def muR (s : St) (b : Nat) (ob : Ob) (k x : SV) (r : Option (Nat × SV)) : R1 := Option.rec (forceL (ob.cs ++ [k, x]) (putO s b ob .und)) (fun p => setK ob.cs (Nat.succ (Nat.mul 2 p.1)) x (putO s b ob .und)) r
noncomputable def muV (P : Program) (t : Nat) (s : St) (y : Ky) (k x : SV) (m : SV) : R1 := match m with
  | .mp b => wM s b fun ob => wo (findL P t y ob.cs 0) (muR s b ob k x)
  | _ => .no
noncomputable def oMu (t : Nat) (m k x : Operand) : Fo := fun P _ e s => w1 m e fun m => w1 k e fun k => w1 x e fun x => wo (mapB P t) fun ke => wo (kyOf P ke.1 k) fun y => muV P ke.1 s y k x m
theorem muV_ok {t : Nat} {y : Ky} {k x m : SV} (h : muV P t s y k x m = .ok v s') : ∃ b, m = .mp b ∧ wM s b (fun ob => wo (findL P t y ob.cs 0) (muR s b ob k x)) = .ok v s' := by
  unfold muV at h
  split at h <;> try (cases h; done)
  exact ⟨_, rfl, h⟩
theorem muX {t : Nat} {m k x : Operand} {o : Op} (ho : o = .mapUpdate t m k x ∨ o = .insert t m k x) {call : Cl} : Sound C call o (oMu t m k x) := fun {e s s' v E ρ ty F} h hE hf => by
  obtain ⟨M', h1, h⟩ := w1_ok h
  obtain ⟨k', h2, h⟩ := w1_ok h
  obtain ⟨x', h3, h⟩ := w1_ok h
  obtain ⟨⟨kt, et⟩, h4, h⟩ := wo_ok h
  obtain ⟨y', h5, h⟩ := wo_ok h
  obtain ⟨M, hx, hM⟩ := ev_ok hE h1
  obtain ⟨K, hy, hK⟩ := ev_ok hE h2
  obtain ⟨X, hz, hX⟩ := ev_ok hE h3
  obtain ⟨g1, g2⟩ := kyOf_ok h5
  obtain rfl := g2 hK
  have ht := mapB_ok h4
  have hck : ∀ em w, (Instr.checkKey em 10000 kt (kyV y')).run C.P w = .ok () w := fun em w => check_ky g1 em 9998 w
  obtain ⟨b, rfl, h⟩ := muV_ok h
  obtain ⟨ob, hg, hid, hT, h⟩ := wM_ok h
  obtain ⟨r, h6, h⟩ := wo_ok h
  simp only [den] at hM
  split at hM <;> try (cases hM; done)
  rename_i q hq
  cases hM
  intro d pos aft gd a w K Q ha hi hK'
  obtain ⟨x2, vs, e1, e2, hi1⟩ := open_m hg hT hi
  have e1' := e1
  rw [hid, hq] at e1'
  cases e1'
  have hb := Inv.blk hi1
  obtain ⟨R, r1, r2⟩ := findKey_ok g1 w h6 e2
  have hget : (getObj q.1).run C.P w = .ok (mO vs) w := by simp [getObj, Sem.run, hb]
  have hset : ∀ o', (setObj q.1 o').run C.P w = .ok () { w with heap := w.heap.setIfInBounds q.1 o' } := fun o' => by simp [setObj, Sem.run, hb]
  have hlt : q.1 < w.heap.size := by
    rcases Nat.lt_or_ge q.1 w.heap.size with h | h
    · exact h
    · simp [Array.getElem?_eq_none h] at hb
  have hbit : Instr.sameBits 10000 (kyV y') (kyV y') = true := bits_ky y' 9999
  have hstay : (Instr.keyThatStays (kyV y') (kyV y')).run C.P w = .ok (kyV y') w := by simp [Instr.keyThatStays, hbit]
  have hrun : ∃ us, dens ρ (ob.cs) = some vs ∧ ∃ cs', dens ρ cs' = some us ∧ v = .und ∧ s' = ⟨s.h.set b (some ⟨ob.id, ob.T, ob.sz, ob.ex, cs'⟩), s.nx⟩ ∧ (execOp a.eval ⟨d, o, ty, pos, aft, gd⟩).run C.P w = .ok .skip { w with heap := w.heap.setIfInBounds q.1 (mO us) } := by
    cases r with
    | none =>
      cases R with
      | some _ => exact r1.elim
      | none =>
        have h : forceL (ob.cs ++ [k', x']) (putO s b ob .und) = .ok v s' := h
        rw [forceL_eq] at h
        cases h
        refine ⟨vs ++ [kyV y', X], e2, _, dens_app e2 (dens_mk hK (dens_mk hX rfl)), rfl, rfl, ?_⟩
        have hp := ents_push vs 0 (kyV y') X r1
        rcases ho with rfl | rfl <;> simp [execOp, ha.eval hx, ha.eval hy, ha.eval hz, Instr.mapUpdate, run_underlying ht, hget, mO, hck, r2, hset, hp]
    | some p =>
      cases R with
      | none => exact r1.elim
      | some p' =>
        obtain ⟨j, v'⟩ := p
        obtain ⟨j', V'⟩ := p'
        obtain ⟨rfl, q2, q', bb, q3, q4⟩ := r1
        obtain rfl : j = q' := by omega
        have h : setK ob.cs (Nat.succ (Nat.mul 2 j)) x' (putO s b ob .und) = .ok v s' := h
        rw [setK_eq] at h
        cases h
        refine ⟨vs.set (2 * j + 1) X, e2, _, dens_set _ e2 hX, rfl, rfl, ?_⟩
        have hp := ents_set vs 0 j (kyV y') V' X bb q4
        have hl : (ents (vs.set (2 * j + 1) X) 0).length = (ents vs 0).length := by rw [ents_len, ents_len, List.length_set]
        have hgk : ((ents vs 0).toArray[j]?.map (·.key)).getD (kyV y') = kyV y' := by simp [q4]
        rcases ho with rfl | rfl <;> simp [execOp, ha.eval hx, ha.eval hy, ha.eval hz, Instr.mapUpdate, run_underlying ht, hget, mO, hck, r2, hset, q4, hstay, hl, hp]
  obtain ⟨us, _, cs', k2, rfl, rfl, k3⟩ := hrun
  unfold Oper.wp
  rw [k3]
  refine hK' undef _ _ ⟨ρ, Ext.refl _, hf, rfl, Sub.refl _⟩ ?_
  refine close_m (ob := ⟨ob.id, ob.T, ob.sz, ob.ex, cs'⟩) hT e1 k2 ?_
  refine Inv.putB hi1 rfl rfl rfl (by simp) (by simp [hlt]) (fun j hj _ => ?_)
  show (w.heap.setIfInBounds q.1 _)[j]? = _
  rw [Array.getElem?_setIfInBounds_ne (Ne.symm hj)]
theorem oMu_ok {call : Cl} {t : Nat} {m k x : Operand} : Sound C call (.mapUpdate t m k x) (oMu t m k x) := muX (.inl rfl)
theorem oIns_ok {call : Cl} {t : Nat} {m k x : Operand} : Sound C call (.insert t m k x) (oMu t m k x) := muX (.inr rfl)
noncomputable def lenY (t : Nat) (P : Program) (s : St) (v : SV) : R1 := match v with
  | .mp b => wo (mapB P t) fun _ => wM s b fun ob => fN (Nat.div ob.cs.length 2) fun n => .ok (.int .i64 (.ofNat n)) s
  | v => lenV t P s v
noncomputable def cLenY : Fb := fun ts xs P e s => match ts with | [t] => (match xs with | [x] => w1 x e (lenY t P s) | _ => .no) | _ => .no
theorem cLenY_ok : SoundB C .len cLenY := fun {e s s' v E ρ ty F ts xs} h hE hf => by
  unfold cLenY at h
  split at h <;> try (cases h; done)
  split at h <;> try (cases h; done)
  rename_i t _ x
  obtain ⟨a, h1, h'⟩ := w1_ok h
  unfold lenY at h'
  split at h'
  · rename_i b
    obtain ⟨⟨kt, et⟩, h2, h'⟩ := wo_ok h'
    obtain ⟨ob, hg, hid, hT, h'⟩ := wM_ok h'
    rw [fN_eq] at h'
    cases h'
    obtain ⟨M, hx, hM⟩ := ev_ok hE h1
    have ht := mapB_ok h2
    simp only [den] at hM
    split at hM <;> try (cases hM; done)
    rename_i q hq
    cases hM
    intro d pos aft gd a w K Q ha hi hK'
    obtain ⟨x', vs, e1, e2, hi1⟩ := open_m hg hT hi
    rw [hid, hq] at e1
    cases e1
    have hb := Inv.blk hi1
    have hget : (getObj q.1).run C.P w = .ok (mO vs) w := by simp [getObj, Sem.run, hb]
    have hl : (ents vs 0).length = ob.cs.length / 2 := by rw [ents_len, dens_len e2]
    obtain ⟨consts, hrun⟩ := run_resolve_builtin (C := C) (ty := ty) (pos := pos) (aft := aft) (b := .len) (xs := [x]) (tys := #[t]) (vs := [.map (some q.1)]) (a := a) (by simp [ha.eval hx]) d gd w
    have hr : (execOp a.eval ⟨d, .call ⟨.builtin .len, [x].toArray, [t].toArray⟩, ty, pos, aft, gd⟩).run C.P w = .ok (.value (.int .i64 ((ob.cs.length / 2 : Nat) : Int))) w := by
      rw [show [t].toArray = #[t] from rfl, hrun]
      simp [builtin, Builtin.len_, run_underlying ht, hget, mO, hl, goInt]
    unfold Oper.wp
    rw [hr]
    exact hK' _ _ w ⟨ρ, Ext.refl _, hf, rfl, Sub.refl _⟩ hi
  · refine cLen_ok (ts := [t]) (xs := [x]) ?_ hE hf
    unfold cLen
    simp only [w1, h1]
    exact h'
end
end Go.Cr

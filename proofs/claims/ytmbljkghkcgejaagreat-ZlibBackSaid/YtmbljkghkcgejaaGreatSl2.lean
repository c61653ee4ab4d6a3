/- Walks of functions that the law reaches, and what they lean on; no conditions. -/
import Derived.Test.YtmbljkghkcgejaaGreatSl1
import Derived.Laws.Cells
import Derived.Laws.Entries
import Derived.Laws.Wrap64
set_option linter.unusedVariables false
set_option linter.unusedSimpArgs false
set_option maxRecDepth 100000
namespace Go.Sl
open Go.RowKit (Below)
def cZ (P : Program) (t : TypeId) : Bool := match P.underlying t with | some (.struct _) => false | some (.array _ _) => false | some _ => (match P.info? t with | some i => Nat.beq i.size 1 | none => false) | none => false
def jR (P : Program) (t : TypeId) : Option Nat := match P.underlying t with | some (.struct _) => (P.info? t).map (·.size) | some (.array _ _) => (P.info? t).map (·.size) | _ => none
def dc (P : Program) (t : TypeId) : Option (List Value) := match P.info? t with | some i => (match i.zero with | some z => cond (Nat.beq z.cells.size i.size) (some z.cells.toList) none | none => none) | none => none
def bK (P : Program) (s f : Nat) : Option Nat := match P.underlying s with
 | some (.struct fs) => (match fs[f]? with | some fd => (match P.info? fd.type with | some i => cond (Nat.beq i.size 0) none (some fd.offset) | none => none) | none => none)
 | _ => none
def sliceB (P : Program) (t : TypeId) : Option (TypeId × Nat × Nat) := match P.underlying t with
 | some (.slice e) => (match P.info? e with | some i => some (e, i.size, i.bytes) | none => none)
 | _ => none
def nk (P : Program) (t : TypeId) : Option (Nat × TypeId × Nat) := match P.underlying t with
 | some (.array n e) => (match P.info? e with | some i => some (n, e, i.size) | none => none)
 | _ => none
def tM (P : Program) (t : TypeId) : Bool := (P.underlying t).isSome
def Om (P : Program) (t : TypeId) (k : IntKind) : Prop := P.underlying t = some (.int k)
def aC (P : Program) (f : FuncId) : Bool := match P.funcs[f]? with | some fn => fn.body.isSome && !(fn.name == "runtime.NumGoroutine") | none => false
theorem sr {P : Program} {t : TypeId} (h : cZ P t = true) (w : World) : (isAgg t).run P w = .ok false w := by
 unfold cZ at h
 unfold isAgg
 split at h <;> simp_all [run_underlying]
theorem run_sizeOf {P : Program} {t : TypeId} {i : TypeInfo} (h : P.info? t = some i) (w : World) : (sizeOf t).run P w = .ok i.size w := by
 simp [sizeOf, typeInfo, h]
theorem yw {P : Program} {t : TypeId} (h : cZ P t = true) : ∃ i, P.info? t = some i ∧ i.size = 1 := by
 unfold cZ at h
 split at h <;> try simp at h
 split at h
 ·rename_i i hi; exact ⟨i, hi, Nat.eq_of_beq_eq_true h⟩
 ·simp at h
theorem wa {P : Program} {t n : Nat} (h : jR P t = some n) (w : World) : (isAgg t).run P w = .ok true w ∧ (sizeOf t).run P w = .ok n w := by
 unfold jR at h
 unfold isAgg
 split at h <;> try simp at h
 all_goals
  obtain ⟨i, hi, rfl⟩ := h
  exact ⟨by simp_all [run_underlying], run_sizeOf hi w⟩
theorem iX {P : Program} {t : Nat} {zs : List Value} (h : dc P t = some zs) : ∃ i z, P.info? t = some i ∧ i.zero = some z ∧ z.cells = zs.toArray ∧ i.size = zs.length := by
 unfold dc at h
 split at h <;> try simp at h
 rename_i i hi
 split at h <;> try simp at h
 rename_i z hz
 by_cases hs : Nat.beq z.cells.size i.size = true
 ·simp [hs] at h
  subst h
  exact ⟨i, z, hi, hz, by simp, by simpa using (Nat.eq_of_beq_eq_true hs).symm⟩
 ·simp [hs] at h
theorem Am {P : Program} {s f o : Nat} (h : bK P s f = some o) : ∃ fs fd i, P.underlying s = some (.struct fs) ∧ fs[f]? = some fd ∧ P.info? fd.type = some i ∧ i.size ≠ 0 ∧ fd.offset = o := by
 unfold bK at h
 split at h <;> try simp at h
 rename_i fs hfs
 split at h <;> try simp at h
 rename_i fd hfd
 split at h <;> try simp at h
 rename_i i hi
 by_cases hz : Nat.beq i.size 0 = true
 ·simp [hz] at h
 ·simp [hz] at h
  refine ⟨fs, fd, i, hfs, hfd, hi, ?_, h⟩
  intro e
  rw [e] at hz
  exact hz rfl
theorem je {P : Program} {t e sz by_ : Nat} (h : sliceB P t = some (e, sz, by_)) : P.underlying t = some (.slice e) ∧ ∃ i, P.info? e = some i ∧ i.size = sz ∧ i.bytes = by_ := by
 unfold sliceB at h
 split at h <;> try simp at h
 rename_i e' he
 split at h <;> try simp at h
 rename_i i hi
 obtain ⟨rfl, rfl, rfl⟩ := h
 exact ⟨he, i, hi, rfl, rfl⟩
theorem z7 {P : Program} {t n e sz : Nat} (h : nk P t = some (n, e, sz)) : P.underlying t = some (.array n e) ∧ ∃ i, P.info? e = some i ∧ i.size = sz := by
 unfold nk at h
 split at h <;> try simp at h
 rename_i n' e' he
 split at h <;> try simp at h
 rename_i i hi
 obtain ⟨rfl, rfl, rfl⟩ := h
 exact ⟨he, i, hi, rfl⟩
theorem fM {a b : Nat} (h : Nat.blt a b = true) : a < b := Nat.le_of_ble_eq_true h
theorem Addr.hJ (b o n : Nat) : (⟨b, o, none⟩ : Addr).add n = ⟨b, o + n, none⟩ := by
 unfold Addr.add
 split
 ·rename_i h; simp [h]
 ·rfl
theorem gQ {n : Int} (h1 : -9223372036854775808 ≤ n) (h2 : n ≤ 9223372036854775807) : IntKind.i64.wrap n = n := by rw [IntKind.wrap_i64]; omega
theorem lN {m n : Int} (h1 : 0 ≤ m) (h2 : 0 < n) (h3 : m ≤ 9223372036854775807) : IntKind.i64.wrap (m.tdiv n) = m / n := by
 rw [Int.tdiv_eq_ediv_of_nonneg h1]
 have h4 := Int.ediv_le_self n h1
 have h5 := Int.ediv_nonneg h1 (Int.le_of_lt h2)
 exact gQ (by omega) (by omega)
theorem jx {m n : Int} (h1 : 0 ≤ m) : m.tmod n = m % n := Int.tmod_eq_emod_of_nonneg h1
inductive iK : List ae → ae → List ae → Prop
 | head {A : ae} {L : List ae} : iK (A :: L) A L
 | tail {A B : ae} {L F : List ae} : iK L A F → iK (B :: L) A (B :: F)
theorem iK.perm {L F : List ae} {A : ae} (h : iK L A F) : L.Perm (A :: F) := by
 induction h with
 | head => exact List.Perm.refl _
 | tail _ ih => exact (List.Perm.cons _ ih).trans (List.Perm.swap _ _ _)
inductive ks : List ae → ae → ae → List ae → Prop
 | head {A A' : ae} {L : List ae} : ks (A :: L) A A' (A' :: L)
 | tail {A A' B : ae} {L F : List ae} : ks L A A' F → ks (B :: L) A A' (B :: F)
theorem ks.perm {L L' : List ae} {A A' : ae} (h : ks L A A' L') : ∃ F, L.Perm (A :: F) ∧ (A' :: F).Perm L' := by
 induction h with
 | head => exact ⟨_, List.Perm.refl _, List.Perm.refl _⟩
 | @tail A A' B L F _ ih =>
  obtain ⟨G, h1, h2⟩ := ih
  exact ⟨B :: G, (List.Perm.cons _ h1).trans (List.Perm.swap _ _ _), (List.Perm.swap _ _ _).trans (List.Perm.cons _ h2)⟩
theorem Inv.mem {w0 w : World} {L : List ae} {A : ae} (hi : Inv w0 L w) (hm : A ∈ L) : ∃ F, Inv w0 (A :: F) w := by
 obtain ⟨X, Y, rfl⟩ := List.append_of_mem hm
 exact ⟨X ++ Y, hi.perm List.perm_middle⟩
section
variable {C : Ctx} {Q : QT} {E : Env} {L L' : List ae} {ops : Array Oper} {rest : List Oper} {d : Nat} {ty : TypeId} {pos : String} {aft : Array Edge} {op : Op} {v : Value}
theorem aW {id : Nat} {l : List Oper} (h : dk C l.toArray l Q E L) : Wp C (.region id l.toArray false) Q E L :=
 fun a w ha hi => wp_region_lit (h a w ha hi)
theorem bC (h : Q .normal E L) : dk C ops [] Q E L := fun a w ha hi => wpList_nil ⟨E, L, ha, hi, h⟩
theorem ta (hp : L.Perm L') (h : dk C ops rest Q E L') : dk C ops rest Q E L := fun a w ha hi => h a w ha (hi.perm hp)
theorem GC {A : ae} {ι : Sort _} {K : ι → Prop} {B : ι → List ae} (hA : ∀ h, A C.w0 h → ∃ i, K i ∧ cA C.w0 (B i) h)
  (k : ∀ i, K i → dk C ops rest Q E (B i ++ L)) : dk C ops rest Q E (A :: L) := fun a w ha hi => let ⟨i, c, s⟩ := hi.pS hA; k i c a w ha s
def Gw : Op → Value → Bool
 | .move _, _ => true
 | .assign _, _ => true
 | .pick _ _ _, _ => true
 | .nilCheck _, _ => true
 | .load _ _, _ => true
 | .binOp _ _ _ _ _, .bool _ => true
 | .binOp _ _ _ _ _, .int _ _ => true
 | .unOp _ _ _, _ => true
 | .convert _ _ _, .int _ _ => true
 | .fieldAddr _ _ _, _ => true
 | .field _ _ _, _ => true
 | .indexAddr _ _ _, _ => true
 | .index _ _ _, _ => true
 | .extract _ _, _ => true
 | .slice _ _ _ _ _, .slice _ _ _ => true
 | .build _ _, _ => true
 | .call ⟨.builtin .len, _, _⟩, .int _ _ => true
 | .call ⟨.builtin .cap, _, _⟩, .int _ _ => true
 | .call ⟨.builtin .min, _, _⟩, .int _ _ => true
 | .call ⟨.builtin .max, _, _⟩, .int _ _ => true
 | _, _ => false
def bX (C : Ctx) (op : Op) (ty : TypeId) (E : Env) (L : List ae) (v : Value) (L' : List ae) : Prop :=
 ∀ (d : Option Nat) (pos : String) (aft : Array Edge) (g : Option (Nat × Bool)) a w, gf C E a → Inv C.w0 L w → ∃ w', ((execOp a.eval ⟨d, op, ty, pos, aft, g⟩).run C.P w = .ok (.value v) w' ∨ (execOp a.eval ⟨d, op, ty, pos, aft, g⟩).run C.P w = .ok .skip w' ∧ v = undef) ∧ Inv C.w0 L' w' ∧ (Gw op v = true → (execOp a.eval ⟨d, op, ty, pos, aft, g⟩).run C.P w = .ok (.value v) w)
def lB (C : Ctx) (op : Op) (ty : TypeId) (E : Env) (L : List ae) (R : Value → List ae → Prop) : Prop :=
 ∀ (d : Option Nat) (pos : String) (aft : Array Edge) (g : Option (Nat × Bool)) a w (K : Act → World → Prop) (Q : Exit → Act → World → Prop), gf C E a → Inv C.w0 L w →
  (∀ v L' w', R v L' → Inv C.w0 L' w' → K (a.put d v) w') → (⟨d, op, ty, pos, aft, g⟩ : Oper).wp C.P a w K Q
theorem bX.x (h : bX C op ty E L v L') : lB C op ty E L (fun v' M => v' = v ∧ M = L') := by
 intro d pos aft g a w K Qx ha hi hK
 obtain ⟨w', hr, hi', _⟩ := h d pos aft g a w ha hi
 unfold Oper.wp
 rcases hr with hr | ⟨hr, e⟩
 ·rw [hr]; exact hK v L' w' ⟨rfl, rfl⟩ hi'
 ·rw [hr]; subst e; exact hK undef L' w' ⟨rfl, rfl⟩ hi'
theorem td (h : bX C op ty E L v L') (hd : Nat.blt d C.n = true) (k : dk C ops rest Q ((d, v) :: E) L') : dk C ops (⟨some d, op, ty, pos, aft, none⟩ :: rest) Q E L := by
 intro a w ha hi
 refine wpList_plain rfl (fun K hK => ?_)
 exact h.x _ _ _ _ a w K _ ha hi (fun v' M w' ⟨e1, e2⟩ hi' => by subst e1; subst e2; exact hK _ _ (k _ _ (ha.put (fM hd) _) hi'))
theorem bM (h : bX C op ty E L v L') (k : dk C ops rest Q E L') : dk C ops (⟨none, op, ty, pos, aft, none⟩ :: rest) Q E L := by
 intro a w ha hi
 refine wpList_plain rfl (fun K hK => ?_)
 exact h.x _ _ _ _ a w K _ ha hi (fun v' M w' ⟨e1, e2⟩ hi' => by subst e1; subst e2; exact hK _ _ (k _ _ ha hi'))
theorem nY {R : Value → List ae → Prop} (h : lB C op ty E L R) (hd : Nat.blt d C.n = true) (k : ∀ v L', R v L' → dk C ops rest Q ((d, v) :: E) L') : dk C ops (⟨some d, op, ty, pos, aft, none⟩ :: rest) Q E L := by
 intro a w ha hi
 refine wpList_plain rfl (fun K hK => ?_)
 exact h _ _ _ _ a w K _ ha hi (fun v M w' hR hi' => hK _ _ (k v M hR _ _ (ha.put (fM hd) _) hi'))
def jk (ops : Array Oper) (E : Env) (j : Nat) : Option Bool :=
 match ops[j]? with
 | some o => (match o.dst with
  | some t => (match E.get t with | some (.bool b) => some b | _ => none)
  | none => none)
 | none => none
theorem kg {a : Act} {j : Nat} {b want : Bool} {o : Oper} (ha : gf C E a) (h : jk ops E j = some b) (hg : o.guard = some (j, want)) : Region.wanted o (yielded ops a.tmps) = (b == want) := by
 unfold jk at h
 split at h <;> try simp at h
 rename_i oj hj
 split at h <;> try simp at h
 rename_i t ht
 split at h <;> try simp at h
 rename_i b' hb
 subst h
 have := ha.get t _ hb
 simp [Region.wanted, hg, yielded, hj, ht, this]
theorem al {dst : Option Nat} {j : Nat} {want : Bool} (hg : jk ops E j = some want) (h : dk C ops (⟨dst, op, ty, pos, aft, none⟩ :: rest) Q E L) : dk C ops (⟨dst, op, ty, pos, aft, some (j, want)⟩ :: rest) Q E L := by
 intro a w ha hi
 have h1 := h a w ha hi
 have hw := kg (o := ⟨dst, op, ty, pos, aft, some (j, want)⟩) ha hg rfl
 unfold wpList at h1 ⊢
 rw [if_pos (by simp [Region.wanted])] at h1
 rw [if_pos (by rw [hw]; simp)]
 exact h1
theorem xj {j : Nat} {want b : Bool} (hg : jk ops E j = some b) (hb : (b == want) = false) (hd : Nat.blt d C.n = true) (h : dk C ops rest Q ((d, undef) :: E) L) : dk C ops (⟨some d, op, ty, pos, aft, some (j, want)⟩ :: rest) Q E L := by
 intro a w ha hi
 have hw := kg (o := ⟨some d, op, ty, pos, aft, some (j, want)⟩) ha hg rfl
 unfold wpList
 rw [if_neg (by rw [hw, hb]; simp)]
 exact h _ _ (ha.put (fM hd) _) hi
theorem xa {b : Bool} (t : Nat) (ht : E.get t = some (.bool b)) (hT : b = true → dk C ops rest Q ((t, .bool true) :: E) L) (hF : b = false → dk C ops rest Q ((t, .bool false) :: E) L) : dk C ops rest Q E L := by
 have key : ∀ c : Bool, b = c → Le ((t, .bool c) :: E) E := fun c e => by subst e; exact Le.cons ht (Le.refl _)
 intro a w ha hi
 cases b with
 | true => exact hT rfl a w (ha.le (key _ rfl)) hi
 | false => exact hF rfl a w (ha.le (key _ rfl)) hi
theorem ee {p : Prop} [Decidable p] (t : Nat) (ht : E.get t = some (.bool (decide p))) (hT : p → dk C ops rest Q ((t, .bool true) :: E) L) (hF : ¬ p → dk C ops rest Q ((t, .bool false) :: E) L) : dk C ops rest Q E L :=
 xa t ht (fun e => hT (of_decide_eq_true e)) (fun e => hF (of_decide_eq_false e))
theorem dR (hr : ∀ (d : Option Nat) (pos : String) (aft : Array Edge) (g : Option (Nat × Bool)) a w, gf C E a → (execOp a.eval ⟨d, op, ty, pos, aft, g⟩).run C.P w = .ok (.value v) w) : bX C op ty E L v L :=
 fun d pos aft g a w ha hi => ⟨w, .inl (hr d pos aft g a w ha), hi, fun _ => hr d pos aft g a w ha⟩
theorem aB {x : Operand} (h : ay E x = some v) : bX C (.move x) ty E L v L := dR fun d pos aft g a w ha => by simp [execOp, ha.eval h]
theorem cE {x : Operand} (h : ay E x = some v) : bX C (.assign x) ty E L v L := dR fun d pos aft g a w ha => by simp [execOp, ha.eval h]
theorem mS {c x y : Operand} (hc : ay E c = some (.bool true)) (h : ay E x = some v) : bX C (.pick c x y) ty E L v L := dR fun d pos aft g a w ha => by simp [execOp, ha.eval h, ha.eval hc, asBool]
theorem mP {c x y : Operand} (hc : ay E c = some (.bool false)) (h : ay E y = some v) : bX C (.pick c x y) ty E L v L := dR fun d pos aft g a w ha => by simp [execOp, ha.eval h, ha.eval hc, asBool]
theorem Bn {x : Operand} {p : Addr} (h : ay E x = some (.pointer (some p))) : bX C (.nilCheck x) ty E L (.pointer (some p)) L := dR fun d pos aft g a w ha => by simp [execOp, ha.eval h]
theorem re {x : Operand} {t : TypeId} {b : Bool} (h : ay E x = some (.bool b)) : bX C (.unOp .not t x) ty E L (.bool (!b)) L := dR fun d pos aft g a w ha => by simp [execOp, ha.eval h, Op.unary]
theorem qS {x : Operand} {t : TypeId} {p : Prop} [Decidable p] (h : ay E x = some (.bool (decide p))) : bX C (.unOp .not t x) ty E L (.bool (decide (¬ p))) L := dR fun d pos aft g a w ha => by simp [execOp, ha.eval h, Op.unary]
theorem jI {x : Operand} {vs : Array Value} {i : Nat} (h : ay E x = some (.tuple vs)) (hv : vs[i]? = some v) : bX C (.extract x i) ty E L v L := dR fun d pos aft g a w ha => by simp [execOp, ha.eval h, Instr.extract, hv]
section ints
variable {x y : Operand} {t t' : TypeId} {k : IntKind} {m n r : Int}
theorem jo {o : BinOp} {t' : TypeId} (d : Option Nat) (pos : String) (aft : Array Edge) (g : Option (Nat × Bool)) {a : Act} {w : World} {u1 u2 : Value} (hx : a.eval x = u1) (hy : a.eval y = u2) (hg : (eqGuard o t x y u1 u2).run C.P w = .ok () w) :
  (execOp a.eval ⟨d, .binOp o t x y t', ty, pos, aft, g⟩).run C.P w = ((binOp o t u1 u2).run C.P w).andThen fun v w => .ok (.value v) w := by
 simp [execOp, hx, hy, hg]
theorem yt {o : BinOp} (w : World) : (eqGuard o t x y (.int k m) (.int k n)).run C.P w = .ok () w := by
 unfold eqGuard
 cases o <;> simp
theorem jF {o : BinOp} (hx : ay E x = some (.int k m)) (hy : ay E y = some (.int k n)) (hr : ∀ w, (binOp o t (.int k m) (.int k n)).run C.P w = .ok v w) : bX C (.binOp o t x y t') ty E L v L :=
 dR fun d pos aft g a w ha => by rw [jo d pos aft g (ha.eval hx) (ha.eval hy) (yt w), hr]; rfl
theorem bU (hx : ay E x = some (.int k m)) (hy : ay E y = some (.int k n)) (e : k.wrap (m + n) = r) : bX C (.binOp .add t x y t') ty E L (.int k r) L := jF hx hy fun w => by simp [binOp, Op.intArith, e]
theorem dD (hx : ay E x = some (.int k m)) (hy : ay E y = some (.int k n)) (e : k.wrap (m - n) = r) : bX C (.binOp .sub t x y t') ty E L (.int k r) L := jF hx hy fun w => by simp [binOp, Op.intArith, e]
theorem vD (hx : ay E x = some (.int k m)) (hy : ay E y = some (.int k n)) (e : k.wrap (m * n) = r) : bX C (.binOp .mul t x y t') ty E L (.int k r) L := jF hx hy fun w => by simp [binOp, Op.intArith, e]
theorem ke (hx : ay E x = some (.int k m)) (hy : ay E y = some (.int k n)) (h0 : n ≠ 0) (e : k.wrap (m.tdiv n) = r) : bX C (.binOp .quo t x y t') ty E L (.int k r) L := jF hx hy fun w => by simp [binOp, Op.intDiv, h0, e]
theorem ic (hx : ay E x = some (.int k m)) (hy : ay E y = some (.int k n)) (h0 : n ≠ 0) (e : m.tmod n = r) : bX C (.binOp .rem t x y t') ty E L (.int k r) L := jF hx hy fun w => by simp [binOp, Op.intDiv, h0, e]
theorem gu (hx : ay E x = some (.int k m)) (hy : ay E y = some (.int k n)) (e : k.wrap ((BitVec.ofInt k.bits m &&& BitVec.ofInt k.bits n).toNat : Int) = r) : bX C (.binOp .and t x y t') ty E L (.int k r) L := jF hx hy fun w => by rw [← e]; simp [binOp, Op.intBits]
theorem jy (hx : ay E x = some (.int k m)) (hy : ay E y = some (.int k n)) (e : k.wrap ((BitVec.ofInt k.bits m ||| BitVec.ofInt k.bits n).toNat : Int) = r) : bX C (.binOp .or t x y t') ty E L (.int k r) L := jF hx hy fun w => by rw [← e]; simp [binOp, Op.intBits]
theorem FP (hx : ay E x = some (.int k m)) (hy : ay E y = some (.int k n)) (e : k.wrap ((BitVec.ofInt k.bits m ^^^ BitVec.ofInt k.bits n).toNat : Int) = r) : bX C (.binOp .xor t x y t') ty E L (.int k r) L := jF hx hy fun w => by rw [← e]; simp [binOp, Op.intBits]
theorem eI {k' : IntKind} (hx : ay E x = some (.int k m)) (hy : ay E y = some (.int k' n)) (h0 : 0 ≤ n) (e : k.wrap (m * 2 ^ (min n.toNat k.bits)) = r) : bX C (.binOp .shl t x y t') ty E L (.int k r) L :=
 dR fun d pos aft g a w ha => by
  rw [jo d pos aft g (ha.eval hx) (ha.eval hy) (by simp [eqGuard])]
  simp [binOp, Op.shift, Int.not_lt.2 h0, ← e]
theorem dK {k' : IntKind} (hx : ay E x = some (.int k m)) (hy : ay E y = some (.int k' n)) (h0 : 0 ≤ n) (e : m.fdiv (2 ^ (min n.toNat k.bits)) = r) : bX C (.binOp .shr t x y t') ty E L (.int k r) L :=
 dR fun d pos aft g a w ha => by
  rw [jo d pos aft g (ha.eval hx) (ha.eval hy) (by simp [eqGuard])]
  simp [binOp, Op.shift, Int.not_lt.2 h0, ← e]
theorem bZ (hx : ay E x = some (.int k m)) (hy : ay E y = some (.int k n)) : bX C (.binOp .lss t x y t') ty E L (.bool (decide (m < n))) L := jF hx hy fun w => by simp [binOp, Op.intCmp]
theorem iM (hx : ay E x = some (.int k m)) (hy : ay E y = some (.int k n)) : bX C (.binOp .leq t x y t') ty E L (.bool (decide (m ≤ n))) L := jF hx hy fun w => by simp [binOp, Op.intCmp]
theorem cB (hx : ay E x = some (.int k m)) (hy : ay E y = some (.int k n)) : bX C (.binOp .gtr t x y t') ty E L (.bool (decide (n < m))) L := jF hx hy fun w => by simp [binOp, Op.intCmp]
theorem LF (hx : ay E x = some (.int k m)) (hy : ay E y = some (.int k n)) : bX C (.binOp .geq t x y t') ty E L (.bool (decide (n ≤ m))) L := jF hx hy fun w => by simp [binOp, Op.intCmp]
theorem cg (hx : ay E x = some (.int k m)) (hy : ay E y = some (.int k n)) : bX C (.binOp .eql t x y t') ty E L (.bool (decide (m = n))) L := jF hx hy fun w => by
 simp [binOp, Op.intCmp]; rw [Bool.eq_iff_iff]; simp
theorem cI (hx : ay E x = some (.int k m)) (hy : ay E y = some (.int k n)) : bX C (.binOp .neq t x y t') ty E L (.bool (decide (m ≠ n))) L := jF hx hy fun w => by
 simp [binOp, Op.intCmp]; rw [Bool.eq_iff_iff]; simp
theorem bq {src dst : TypeId} {k' : IntKind} (hs : tM C.P src = true) (hd : C.P.underlying dst = some (.int k')) (hx : ay E x = some (.int k m)) (e : k'.wrap m = r) : bX C (.convert src dst x) ty E L (.int k' r) L :=
 dR fun d pos aft g a w ha => by
  simp only [execOp, ha.eval hx]
  have := run_convert_int (P := C.P) (w := w) src dst k m
  unfold tM at hs
  obtain ⟨ds, hds⟩ := Option.isSome_iff_exists.1 hs
  simp [convert, run_underlying hds, run_underlying hd, Conv.intToInt, e]
end ints
theorem pW {t e : TypeId} {p : Option Addr} (ht : C.P.underlying t = some (.pointer e)) (d : Nat) (w : World) : (Op.equalIn (d + 1) t (.pointer p) (.pointer none)).run C.P w = .ok p.isNone w := by
 cases p <;> simp [Op.equalIn, run_underlying ht]
theorem fS {x y : Operand} {t t' e : TypeId} {p : Option Addr} (ht : C.P.underlying t = some (.pointer e)) (hx : ay E x = some (.pointer p)) (hy : ay E y = some (.pointer none)) : bX C (.binOp .eql t x y t') ty E L (.bool p.isNone) L :=
 dR fun d pos aft g a w ha => by
  rw [jo d pos aft g (ha.eval hx) (ha.eval hy) (by simp [eqGuard])]
  have h := pW ht (p := p) 9999 w
  simp only [binOp, Op.equal, Op.maxDepth, Sem.run_bind, h, Result.andThen_ok, Sem.run_pure]
theorem tQ {x y : Operand} {t t' e : TypeId} {p : Option Addr} (ht : C.P.underlying t = some (.pointer e)) (hx : ay E x = some (.pointer p)) (hy : ay E y = some (.pointer none)) : bX C (.binOp .neq t x y t') ty E L (.bool (!p.isNone)) L :=
 dR fun d pos aft g a w ha => by
  rw [jo d pos aft g (ha.eval hx) (ha.eval hy) (by simp [eqGuard])]
  have h := pW ht (p := p) 9999 w
  simp only [binOp, Op.equal, Op.maxDepth, Sem.run_bind, h, Result.andThen_ok, Sem.run_pure]
theorem iD {x : Operand} {s f o b p : Nat} (ht : bK C.P s f = some o) (h : ay E x = some (.pointer (some ⟨b, p, none⟩))) : bX C (.fieldAddr s x f) ty E L (.pointer (some ⟨b, p + o, none⟩)) L :=
 dR fun d pos aft g a w ha => by
  obtain ⟨fs, fd, i, h1, h2, h3, h4, rfl⟩ := Am ht
  simp [execOp, ha.eval h, Instr.fieldAt, run_underlying h1, h2, Instr.sureAddr, fieldPlace, run_sizeOf h3, h4, Addr.hJ]
theorem HA {x ix : Operand} {t e sz by_ b p len cap : Nat} {k : IntKind} {i : Int} (j : Nat) (hj : i = (j : Int)) (ht : sliceB C.P t = some (e, sz, by_)) (h : ay E x = some (.slice (some ⟨b, p, none⟩) len cap)) (hi : ay E ix = some (.int k i)) (hlt : j < len) : bX C (.indexAddr t x ix) ty E L (.pointer (some ⟨b, p + j * sz, none⟩)) L :=
 dR fun d pos aft g a w ha => by
  obtain ⟨h1, i', h2, h3, h4⟩ := je ht
  subst hj
  have : (j : Int) < (len : Int) := by omega
  simp [execOp, ha.eval h, ha.eval hi, Instr.indexAt, asIntOf, run_underlying h1, run_sizeOf h2, h3, hlt, Addr.hJ]
theorem eA {x ix : Operand} {t e sz n b p : Nat} {k : IntKind} {i : Int} (j : Nat) (hj : i = (j : Int)) (ht : nk C.P t = some (n, e, sz)) (h : ay E x = some (.pointer (some ⟨b, p, none⟩))) (hi : ay E ix = some (.int k i)) (hlt : j < n) : bX C (.indexAddr t x ix) ty E L (.pointer (some ⟨b, p + j * sz, none⟩)) L :=
 dR fun d pos aft g a w ha => by
  obtain ⟨h1, i', h2, h3⟩ := z7 ht
  subst hj
  simp [execOp, ha.eval h, ha.eval hi, Instr.indexAt, asIntOf, run_underlying h1, run_sizeOf h2, h3, hlt, Addr.hJ, Instr.sureAddr]
theorem vg {t : TypeId} {p : Addr} {w : World} (hs : cZ C.P t = true) (h : w.cell? p = some v) : (loadVar t p).run C.P w = .ok v w := by
 simp [loadVar, sr hs, h]
theorem zP {x : Operand} {t : TypeId} {p : Addr} (hs : cZ C.P t = true) (hx : ay E x = some (.pointer (some p))) (hw : ∀ w, Inv C.w0 L w → w.cell? p = some v) : bX C (.load t x) ty E L v L :=
 fun d pos aft g a w ha hi => ⟨w, .inl (by simp [execOp, ha.eval hx, Instr.loadAt, Instr.sureAddr, vg hs (hw w hi)]), hi, fun _ => by simp [execOp, ha.eval hx, Instr.loadAt, Instr.sureAddr, vg hs (hw w hi)]⟩
theorem ag {x : Operand} {t b o T : Nat} {cs : List Value} (hs : cZ C.P t = true) (hx : ay E x = some (.pointer (some ⟨b, o, none⟩))) (hm : av b T cs ∈ L) (hv : cs[o]? = some v) : bX C (.load t x) ty E L v L :=
 zP hs hx fun w hi => by obtain ⟨F, hF⟩ := hi.mem hm; rw [hF.jU, hv]
theorem sT {x : Operand} {t n b o : Nat} {vs : List Value} (hs : jR C.P t = some n) (hx : ay E x = some (.pointer (some ⟨b, o, none⟩))) (hn : vs.length = n) (hw : ∀ w, Inv C.w0 L w → ∀ j v, vs[j]? = some v → w.cell? ⟨b, o + j, none⟩ = some v) : bX C (.load t x) ty E L (.agg vs.toArray) L :=
 fun d pos aft g a w ha hi => by
  have hr : (execOp a.eval ⟨d, .load t x, ty, pos, aft, g⟩).run C.P w = .ok (.value (.agg vs.toArray)) w := by
   obtain ⟨h1, h2⟩ := wa hs w
   have := run_loadCells_list (P := C.P) w ⟨b, o, none⟩ vs (fun j v hj => by rw [Addr.hJ]; exact hw w hi j v hj)
   rw [hn] at this
   simp [execOp, ha.eval hx, Instr.loadAt, Instr.sureAddr, loadVar, h1, h2, this]
  exact ⟨w, .inl hr, hi, fun _ => hr⟩
theorem nW {x : Operand} {t n b o T : Nat} {cs vs : List Value} (hs : jR C.P t = some n) (hx : ay E x = some (.pointer (some ⟨b, o, none⟩))) (hm : av b T cs ∈ L) (hn : vs.length = n) (hv : (cs.drop o).take n = vs) : bX C (.load t x) ty E L (.agg vs.toArray) L :=
 sT hs hx hn fun w hi j v hj => by
  obtain ⟨F, hF⟩ := hi.mem hm
  rw [hF.jU, ← hj, ← hv]
  have : j < n := by
   have := (List.getElem?_eq_some_iff.1 hj).1
   omega
  simp [List.getElem?_take, this, List.getElem?_drop]
theorem bV {x y : Operand} {t b o T : Nat} {cs cs' : List Value} {u : Value} (hs : cZ C.P t = true) (hx : ay E x = some (.pointer (some ⟨b, o, none⟩))) (hy : ay E y = some u) (h1 : u.oneCell' = true)
  (hr : ks L (av b T cs) (av b T cs') L') (ho : o < cs.length) (hc : cs.set o u = cs') : bX C (.store t x y) ty E L undef L' := by
 intro d pos aft g a w ha hi
 obtain ⟨F, p1, p2⟩ := hr.perm
 have hi1 := hi.perm p1
 have hcell : w.cell? ⟨b, o, none⟩ = some cs[o] := by rw [hi1.jU]; simp [ho]
 have hfr := hi1.pG o
 have hcs : u.cells = #[u] := by cases u <;> first | rfl | (simp [Value.oneCell'] at h1)
 obtain ⟨i, hinfo, hsz⟩ := yw hs
 refine ⟨w.setCell ⟨b, o, none⟩ u, .inr ⟨?_, rfl⟩, ?_, fun h => by cases h⟩
 ·have hst := run_store C.P w ⟨b, o, none⟩ u .plain h1
  simp [hcell, hfr] at hst
  simp [execOp, ha.eval hx, ha.eval hy, Instr.storeAt, Instr.sureAddr, storeVar, hcs, run_sizeOf hinfo, hsz, storeCells, Addr.hJ, hst]
 ·rw [← hc] at p2
  exact (hi1.setCell o u).perm p2
theorem GR {t : TypeId} {zs : List Value} (hz : dc C.P t = some zs) : lB C (.alloc t) ty E L (fun v L' => ∃ b, v = .pointer (some ⟨b, 0, none⟩) ∧ L' = av b t zs :: L) := by
 intro d pos aft g a w K Qx ha hi hK
 obtain ⟨i, z, h1, h2, h3, h4⟩ := iX hz
 have hr : (execOp a.eval ⟨d, .alloc t, ty, pos, aft, g⟩).run C.P w = .ok (.value (.pointer (some ⟨w.heap.size, 0, none⟩))) (w.alloc (.cells zs.toArray t)) := by
  simp [execOp, Instr.alloc, zeroValue, typeInfo, h1, h2, newVar, newRow, h3]
 unfold Oper.wp
 rw [hr]
 exact hK _ _ _ ⟨_, rfl, rfl⟩ (hi.alloc t zs)
theorem Gr {t : TypeId} {x : Operand} {u : Value} (hx : ay E x = some u) : lB C (.box t x) ty E L (fun v L' => ∃ b, v = .pointer (some ⟨b, 0, none⟩) ∧ L' = av b t u.cells.toList :: L) := by
 intro d pos aft g a w K Qx ha hi hK
 have hr : (execOp a.eval ⟨d, .box t x, ty, pos, aft, g⟩).run C.P w = .ok (.value (.pointer (some ⟨w.heap.size, 0, none⟩))) (w.alloc (.cells u.cells.toList.toArray t)) := by
  simp [execOp, ha.eval hx, Instr.box, newVar, newRow]
 unfold Oper.wp
 rw [hr]
 exact hK _ _ _ ⟨_, rfl, rfl⟩ (hi.alloc t _)
theorem fR {t : TypeId} {zs : List Value} (hz : dc C.P t = some zs) (hd : Nat.blt d C.n = true) (k : ∀ b, dk C ops rest Q ((d, .pointer (some ⟨b, 0, none⟩)) :: E) (av b t zs :: L)) : dk C ops (⟨some d, .alloc t, ty, pos, aft, none⟩ :: rest) Q E L :=
 nY (GR hz) hd fun v L' ⟨b, e1, e2⟩ => by subst e1; subst e2; exact k b
theorem fG {t : TypeId} {x : Operand} {u : Value} {cs : List Value} (hx : ay E x = some u) (hc : u.cells.toList = cs) (hd : Nat.blt d C.n = true) (k : ∀ b, dk C ops rest Q ((d, .pointer (some ⟨b, 0, none⟩)) :: E) (av b t cs :: L)) : dk C ops (⟨some d, .box t x, ty, pos, aft, none⟩ :: rest) Q E L :=
 nY (Gr hx) hd fun v L' ⟨b, e1, e2⟩ => by subst e1; subst e2; subst hc; exact k b
theorem kd {w0 : World} {b T : Nat} : ∀ (us : List Value) (o i : Nat) (cs : List Value) (F : List ae) (w : World), (∀ u ∈ us, u.oneCell' = true) → o + i + us.length ≤ cs.length → Inv w0 (av b T cs :: F) w →
  ∃ w', (storeCells ⟨b, o, none⟩ us i).run C.P w = .ok () w' ∧ Inv w0 (av b T (cs.take (o + i) ++ us ++ cs.drop (o + i + us.length)) :: F) w'
 | [], o, i, cs, F, w, _, h, hi => ⟨w, rfl, by simpa using hi⟩
 | u :: us, o, i, cs, F, w, h1, h, hi => by
  simp only [List.length_cons] at h
  have hlt : o + i < cs.length := by omega
  have hcell : w.cell? ⟨b, o + i, none⟩ = some cs[o + i] := by rw [hi.jU]; simp [hlt]
  have hfr := hi.pG (o + i)
  have hst := run_store C.P w ⟨b, o + i, none⟩ u .plain (h1 u (by simp))
  simp [hcell, hfr] at hst
  obtain ⟨w', hr, hi'⟩ := kd us o (i + 1) (cs.set (o + i) u) F _ (fun x hx => h1 x (by simp [hx])) (by simp; omega) (hi.setCell (o + i) u)
  refine ⟨w', by simp [storeCells, Addr.hJ, hst, hr], ?_⟩
  have e : (cs.set (o + i) u).take (o + (i + 1)) ++ us ++ (cs.set (o + i) u).drop (o + (i + 1) + us.length) = cs.take (o + i) ++ (u :: us) ++ cs.drop (o + i + (u :: us).length) := by
   have e1 : (cs.set (o + i) u).take (o + (i + 1)) = cs.take (o + i) ++ [u] := by
    apply List.ext_getElem?
    intro j
    simp only [List.getElem?_take, List.getElem?_set, List.getElem?_append, List.length_take]
    by_cases hj : j < o + i
    ·have : j < o + (i + 1) := by omega
     have h3 : ¬ (o + i = j) := by omega
     have h4 : j < min (o + i) cs.length := by omega
     simp [hj, this, h3, h4]
    ·by_cases hj2 : j = o + i
     ·subst hj2
      have : o + i < o + (i + 1) := by omega
      have h4 : ¬ (o + i < min (o + i) cs.length) := by omega
      have h5 : o + i - min (o + i) cs.length = 0 := by omega
      simp [this, hlt, h4, h5]
     ·have : ¬ j < o + (i + 1) := by omega
      have h4 : ¬ (j < min (o + i) cs.length) := by omega
      have h5 : ¬ (j - min (o + i) cs.length = 0) := by omega
      simp [this, h4, List.getElem?_cons, h5]
   have e2 : (cs.set (o + i) u).drop (o + (i + 1) + us.length) = cs.drop (o + i + (u :: us).length) := by
    rw [List.drop_set_of_lt (by omega)]
    congr 1
    simp; omega
   rw [e1, e2]
   simp
  rw [← e]
  exact hi'
theorem fc {x y : Operand} {t b o T n : Nat} {cs cs' us : List Value} (hs : jR C.P t = some n) (hx : ay E x = some (.pointer (some ⟨b, o, none⟩))) (hy : ay E y = some (.agg us.toArray)) (h1 : us.all Value.oneCell' = true) (hn : us.length = n)
  (hr : ks L (av b T cs) (av b T cs') L') (ho : o + n ≤ cs.length) (hc : cs.take o ++ us ++ cs.drop (o + n) = cs') : bX C (.store t x y) ty E L undef L' := by
 intro d pos aft g a w ha hi
 obtain ⟨F, p1, p2⟩ := hr.perm
 have hi1 := hi.perm p1
 obtain ⟨h2, h3⟩ := wa hs w
 obtain ⟨w', hst, hi'⟩ := kd (C := C) us o 0 cs F w (fun u hu => by simpa using List.all_eq_true.1 h1 u hu) (by omega) hi1
 refine ⟨w', .inr ⟨?_, rfl⟩, ?_, fun h => by cases h⟩
 ·simp [execOp, ha.eval hx, ha.eval hy, Instr.storeAt, Instr.sureAddr, storeVar, Value.cells, h3, hn, hst]
 ·simp only [Nat.add_zero, hn, hc] at hi'
  exact hi'.perm p2
end
end Go.Sl

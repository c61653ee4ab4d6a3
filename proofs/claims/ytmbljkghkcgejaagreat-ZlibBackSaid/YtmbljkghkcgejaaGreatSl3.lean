/- Walks of functions that the law reaches, and what they lean on; no conditions. -/
import Derived.Test.YtmbljkghkcgejaaGreatSl2
set_option linter.unusedVariables false
set_option linter.unusedSimpArgs false
set_option maxRecDepth 100000
namespace Go.Sl
open Go.RowKit (Below)
def aD (P : Program) (f : FuncId) (args : List Value) (Pre : List ae) (Post : Ending → List ae → Prop) : Prop :=
 ∀ w0 F w, Inv w0 (Pre ++ F) w → Calls P f args.toArray w fun e w' => ∃ G, Inv w0 (G ++ F) w' ∧ Post e G
def aK (R : Value → List ae → Prop) : Ending → List ae → Prop := fun e G => ∃ v, e = .returned v ∧ R v G
theorem aD.mono {P : Program} {f : FuncId} {args : List Value} {Pre : List ae} {Post Post' : Ending → List ae → Prop} (h : aD P f args Pre Post) (hp : ∀ e G, Post e G → Post' e G) : aD P f args Pre Post' :=
 fun w0 F w hi => (h w0 F w hi).mono fun e w' ⟨G, h1, h2⟩ => ⟨G, h1, hp e G h2⟩
def iB (E : Env) : List Operand → Option (List Value)
 | [] => some []
 | x :: xs => match ay E x with | some v => (match iB E xs with | some vs => some (v :: vs) | none => none) | none => none
theorem gf.iB {C : Ctx} {E : Env} {a : Act} (h : gf C E a) : ∀ {xs : List Operand} {vs : List Value}, iB E xs = some vs → xs.toArray.map a.eval = vs.toArray
 | [], vs, e => by simp only [Sl.iB] at e; cases e; simp
 | x :: xs, vs, e => by
  simp only [Sl.iB] at e
  split at e <;> try simp at e
  rename_i v hv
  split at e <;> try simp at e
  rename_i us hus
  subst e
  have := gf.iB h hus
  simp at this ⊢
  exact ⟨h.eval hv, this⟩
inductive fy : List ae → List ae → List ae → Prop
 | nil {L : List ae} : fy L [] L
 | cons {L M F Pre : List ae} {A : ae} : iK L A M → fy M Pre F → fy L (A :: Pre) F
theorem fy.perm {L Pre F : List ae} (h : fy L Pre F) : L.Perm (Pre ++ F) := by
 induction h with
 | nil => exact List.Perm.refl _
 | cons h _ ih => exact h.perm.trans (List.Perm.cons _ ih)
theorem gD {P : Program} {f : FuncId} (hb : aC P f = true) (vs : Array Value) (w : World) : (callFunc f vs).run P w = .ok (.enter f vs) w := by
 unfold aC at hb
 split at hb <;> try simp at hb
 rename_i fn hfn
 obtain ⟨h1, h2⟩ := hb
 have h3 : fn.body ≠ none := by intro e; rw [e] at h1; cases h1
 simp [callFunc, hfn, h2, h3]
section
variable {C : Ctx} {Q : QT} {E : Env} {L L' : List ae} {ops : Array Oper} {rest : List Oper} {d : Nat} {ty : TypeId} {pos : String} {aft : Array Edge} {op : Op} {v : Value}
theorem BH {f : FuncId} {args : List Operand} {tys : Array TypeId} {vs : List Value} {Pre F : List ae} {R : Value → List ae → Prop} (hS : aD C.P f vs Pre (aK R)) (hb : aC C.P f = true) (hE : iB E args = some vs) (hL : fy L Pre F) :
  lB C (.call ⟨.value (.func f), args.toArray, tys⟩) ty E L (fun v L' => ∃ G, R v G ∧ L' = G ++ F) := by
 intro d pos aft g a w K Qx ha hi hK
 have hargs := ha.iB hE
 have hr : (execOp a.eval ⟨d, .call ⟨.value (.func f), args.toArray, tys⟩, ty, pos, aft, g⟩).run C.P w = .ok (.enter f vs.toArray) w := by
  simp only [execOp, resolve, hargs, Deferred.ofValue, Act.eval, invoke, Sem.run_bind, Sem.run_pure, Result.andThen_ok, Array.append_empty, Array.empty_append, gD hb]
 unfold Oper.wp
 rw [hr]
 refine (hS C.w0 F w (hi.perm hL.perm)).mono ?_
 rintro e w' ⟨G, h1, v, rfl, h2⟩
 exact hK v (G ++ F) w' ⟨G, h2, rfl⟩ h1
theorem ai {f : FuncId} {args : List Operand} {tys : Array TypeId} {vs : List Value} {Pre F : List ae} {R : Value → List ae → Prop} (hS : aD C.P f vs Pre (aK R)) (hb : aC C.P f = true) (hE : iB E args = some vs) (hL : fy L Pre F) (hd : Nat.blt d C.n = true)
  (k : ∀ v G, R v G → dk C ops rest Q ((d, v) :: E) (G ++ F)) : dk C ops (⟨some d, .call ⟨.value (.func f), args.toArray, tys⟩, ty, pos, aft, none⟩ :: rest) Q E L :=
 nY (BH hS hb hE hL) hd fun v L' ⟨G, h1, e⟩ => by subst e; exact k v G h1
theorem GZ {f : FuncId} {t : Nat} {args : List Operand} {tys : Array TypeId} {vs fs cs : List Value} {Pre F : List ae} {R : Value → List ae → Prop} (hS : aD C.P f (fs ++ vs ++ cs) Pre (aK R)) (hb : aC C.P f = true) (ht : E.get t = some (.func (.func f) fs.toArray cs.toArray)) (hE : iB E args = some vs) (hL : fy L Pre F) (hd : Nat.blt d C.n = true)
  (k : ∀ v G, R v G → dk C ops rest Q ((d, v) :: E) (G ++ F)) : dk C ops (⟨some d, .call ⟨.value (.tmp t), args.toArray, tys⟩, ty, pos, aft, none⟩ :: rest) Q E L := by
 intro a w ha hi
 refine wpList_plain rfl (fun K hK => ?_)
 have hargs := ha.iB hE
 have hev := ha.eval (x := .tmp t) ht
 have hr : (execOp a.eval ⟨some d, .call ⟨.value (.tmp t), args.toArray, tys⟩, ty, pos, aft, none⟩).run C.P w = .ok (.enter f (fs ++ vs ++ cs).toArray) w := by
  simp only [execOp, resolve, hargs, hev, Deferred.ofValue, invoke, Sem.run_bind, Sem.run_pure, Result.andThen_ok, gD hb]
  simp
 unfold Oper.wp
 rw [hr]
 refine (hS C.w0 F w (hi.perm hL.perm)).mono ?_
 rintro e w' ⟨G, h1, v, rfl, h2⟩
 exact hK _ _ (k v G h2 _ _ (ha.put (fM hd) _) h1)
inductive Drop : List ae → List ae → Prop
 | refl {L : List ae} : Drop L L
 | skip {A : ae} {L F : List ae} : Drop L F → Drop (A :: L) F
 | keep {A : ae} {L F : List ae} : Drop L F → Drop (A :: L) (A :: F)
theorem Drop.inv {w0 w : World} {L F : List ae} (h : Drop L F) : ∀ {M : List ae}, Inv w0 (M ++ L) w → Inv w0 (M ++ F) w := by
 induction h with
 | refl => exact fun h => h
 | @skip A L F _ ih => exact fun {M} h => ih ((h.perm List.perm_middle).tail)
 | @keep A L F _ ih =>
  intro M h
  have := ih (M := M ++ [A]) (by simpa using h)
  simpa using this
def Sub (L M : List ae) : Prop := ∀ (w0 w : World), Inv w0 L w → Inv w0 M w
theorem sub {L G M F : List ae} (h : fy L G M) (d : Drop M F) : Sub L (G ++ F) := fun _ _ hi => d.inv (hi.perm h.perm)
theorem Sub.trans {L M N : List ae} (h : Sub L M) (k : Sub M N) : Sub L N := fun w0 w hi => k w0 w (h w0 w hi)
theorem fold {A : ae} {B F : List ae} (hA : ∀ w0 h, cA w0 B h → A w0 h) : Sub (B ++ F) (A :: F) := fun w0 w hi => hi.cls (fun h s => hA w0 h s)
def mW (C : Ctx) (rs : Array ResultVar) (E : Env) (L : List ae) (v : Value) : Prop := ∀ fn a w, fn.results = rs → gf C E a → Inv C.w0 L w → (results fn a.tmps).run C.P w = .ok v w
theorem dN : mW C #[] E L (.tuple #[]) := fun fn a w hr ha hi => by simp [results, hr]
theorem bu {t : Nat} (h : E.get t = some v) : mW C #[.tmp t] E L v := fun fn a w hr ha hi => by simp [results, hr, ha.get _ _ h]
theorem bT {t u : Nat} {v1 v2 : Value} (h1 : E.get t = some v1) (h2 : E.get u = some v2) : mW C #[.tmp t, .tmp u] E L (.tuple #[v1, v2]) := fun fn a w hr ha hi => by simp [results, hr, ha.get _ _ h1, ha.get _ _ h2]
theorem dL {t u x : Nat} {v1 v2 v3 : Value} (h1 : E.get t = some v1) (h2 : E.get u = some v2) (h3 : E.get x = some v3) : mW C #[.tmp t, .tmp u, .tmp x] E L (.tuple #[v1, v2, v3]) := fun fn a w hr ha hi => by simp [results, hr, ha.get _ _ h1, ha.get _ _ h2, ha.get _ _ h3]
def pI (C : Ctx) (rs : Array ResultVar) (F : List ae) (Post : Ending → List ae → Prop) : QT := fun e E L => match e with
 | .normal => ∃ v G, mW C rs E L v ∧ Post (.returned v) G ∧ Sub L (G ++ F)
 | .ret => ∃ v G, mW C rs E L v ∧ Post (.returned v) G ∧ Sub L (G ++ F)
 | .panic ch => ∃ G, Post (.panicked ch) G ∧ Sub L (G ++ F)
 | _ => False
theorem an {rs : Array ResultVar} {F G : List ae} {R : Value → List ae → Prop} (hr : mW C rs E L v) (hR : R v G) (hs : Sub L (G ++ F)) : pI C rs F (aK R) .ret E L := ⟨v, G, hr, ⟨v, rfl, hR⟩, hs⟩
theorem dT {rs : Array ResultVar} {F G : List ae} {R : Value → List ae → Prop} (hr : mW C rs E L v) (hR : R v G) (hs : Sub L (G ++ F)) : pI C rs F (aK R) .normal E L := ⟨v, G, hr, ⟨v, rfl, hR⟩, hs⟩
def wG : Nat → List Value → Env
 | _, [] => []
 | i, v :: vs => (i, v) :: wG (i + 1) vs
theorem si : ∀ (i : Nat) (vs : List Value) (d : Nat) (u : Value), (wG i vs).get d = some u → i ≤ d ∧ vs[d - i]? = some u
 | i, [], d, u, h => by cases h
 | i, v :: vs, d, u, h => by
  rw [wG, Env.iF] at h
  by_cases e : i = d
  ·subst e; simp at h; simp [h]
  ·simp only [e, if_false] at h
   obtain ⟨h1, h2⟩ := si (i + 1) vs d u h
   refine ⟨by omega, ?_⟩
   rw [show d - i = d - (i + 1) + 1 by omega]
   simpa using h2
theorem ax {P : Program} {f : FuncId} {fn : Func} {c : Code} {args : List Value} {Pre : List ae} {Post : Ending → List ae → Prop} {n : Nat} (E : Env) (hf : P.funcs[f]? = some fn) (hb : fn.body = some c) (hn : fn.ntmps = n) (hE : wG 0 args = E) (hl : Nat.ble args.length n = true)
  (h : ∀ w0 F, Wp ⟨P, w0, n, [], fun ch L => ∃ G, Post (.panicked ch) G ∧ Sub L (G ++ F)⟩ c (pI ⟨P, w0, n, [], fun ch L => ∃ G, Post (.panicked ch) G ∧ Sub L (G ++ F)⟩ fn.results F Post) E (Pre ++ F)) : aD P f args Pre Post := by
 intro w0 F w hi
 have hl := Nat.le_of_ble_eq_true hl
 refine calls_of_wp hf hb (Code.wp_mono ?_ (h w0 F _ w ?_ hi))
 ·rintro e a w' ⟨E', L', ha', hi', hq⟩
  cases e with
  | normal => obtain ⟨v, G, h1, h2, h3⟩ := hq; exact ⟨ha'.defers, v, h1 fn a w' rfl ha' hi', G, h3 _ _ hi', h2⟩
  | ret => obtain ⟨v, G, h1, h2, h3⟩ := hq; exact ⟨ha'.defers, v, h1 fn a w' rfl ha' hi', G, h3 _ _ hi', h2⟩
  | panic ch => obtain ⟨G, h1, h2⟩ := hq; exact ⟨ha'.defers, G, h2 _ _ hi', h1⟩
  | exit _ => exact hq
  | goto _ => exact hq
  | outgrown => exact hq.elim
 ·refine ⟨rfl, ?_, ?_⟩
  ·simp [hn]; omega
  ·intro d v hd
   rw [← hE] at hd
   obtain ⟨_, h2⟩ := si 0 args d v hd
   have hlt := (List.getElem?_eq_some_iff.1 h2).1
   simp at h2 hlt ⊢
   rw [Array.getElem?_append_left (by simpa using hlt)]
   simpa using h2
def pA (w0 : World) (h : Hp) (a : Addr) : Option Value := match h a.block with
 | some (.cells c _ _) => if a.spot.isSome then none else c[a.off]?
 | some _ => none
 | none => if a.block < w0.heap.size then w0.cell? a else none
theorem tB {w0 w : World} {h : Hp} {a : Addr} {u : Value} (hb : Below w0.heap.size w0 w) (hh : ∀ b o, h b = some o → w0.heap.size ≤ b ∧ w.heap[b]? = some o) (e : pA w0 h a = some u) : w.cell? a = some u := by
 unfold pA at e
 split at e
 ·rename_i c T fr hc
  have := (hh _ _ hc).2
  simp only [World.cell?, this]
  exact e
 ·cases e
 ·split at e
  ·rename_i hlt; rw [hb.cell hlt]; exact e
  ·cases e
def Rd (p : Option Addr) (n sz : Nat) (vs : List Value) : ae := fun w0 h => vs.length = n * sz ∧ (n = 0 ∨ ∃ b o, p = some ⟨b, o, none⟩ ∧ ∀ i v, vs[i]? = some v → pA w0 h ⟨b, o + i, none⟩ = some v)
def Sl (p : Option Addr) (n cap : Nat) (T : TypeId) (sz : Nat) (vs : List Value) : ae := fun _ h =>
 (p = none ∧ n = 0 ∧ cap = 0 ∧ vs = []) ∨
 ∃ b o pre post, p = some ⟨b, o, none⟩ ∧ h b = some (.cells (pre ++ vs ++ post).toArray T (0, 0)) ∧ pre.length = o ∧ vs.length = n * sz ∧ (cap - n) * sz ≤ post.length ∧ n ≤ cap
theorem Sl.rd {p : Option Addr} {n cap T sz : Nat} {vs : List Value} {w0 : World} {h : Hp} (hs : Sl p n cap T sz vs w0 h) : Rd p n sz vs w0 h := by
 rcases hs with ⟨rfl, rfl, rfl, rfl⟩ | ⟨b, o, pre, post, rfl, h1, h2, h3, h4, h5⟩
 ·exact ⟨by simp, .inl rfl⟩
 ·refine ⟨h3, .inr ⟨b, o, rfl, fun i v hv => ?_⟩⟩
  have hlt := (List.getElem?_eq_some_iff.1 hv).1
  simp only [pA, h1, Option.isSome_none, Bool.false_eq_true, if_false, List.getElem?_toArray]
  rw [List.append_assoc, List.getElem?_append_right (by omega), h2, show o + i - o = i by omega, List.getElem?_append_left hlt, hv]
theorem Inv.rd {w0 w : World} {L : List ae} {R : ae} {p : Option Addr} {n sz : Nat} {vs : List Value} (hi : Inv w0 L w) (hm : R ∈ L) (hR : ∀ h, R w0 h → Rd p n sz vs w0 h) :
  vs.length = n * sz ∧ (n = 0 ∨ ∃ b o, p = some ⟨b, o, none⟩ ∧ ∀ i v, vs[i]? = some v → w.cell? ⟨b, o + i, none⟩ = some v) := by
 obtain ⟨F, hb, h, a, h1, h2, d, l1, l2, hp, k⟩ := hi.mem hm
 obtain ⟨e1, e2⟩ := hR h1 hp
 refine ⟨e1, e2.imp id ?_⟩
 rintro ⟨b, o, rfl, hc⟩
 exact ⟨b, o, rfl, fun i v hv => tB hb (fun b o e => a b o (l1 b o e)) (hc i v hv)⟩
theorem Inv.sd {w0 w : World} {L : List ae} {A : ae} (hi : Inv w0 L w) (hA : A w0 (fun _ => none)) : Inv w0 (A :: L) w :=
 ⟨hi.below, let ⟨h, a, k⟩ := hi.heap; ⟨h, a, fun _ => none, h, fun _ => .inl rfl, fun _ _ e => by simp at e, Hp.le_refl _, hA, k⟩⟩
theorem od {c : Code} {p : Prop} (h : ∀ w, Inv C.w0 L w → p) (k : p → Wp C c Q E L) : Wp C c Q E L := fun a w ha hi => k (h w hi) a w ha hi
theorem eF {x : Operand} {t ty' : TypeId} {e : TypeId} {p : Option Addr} {n cap : Nat} (ht : C.P.underlying t = some (.slice e)) (h : ay E x = some (.slice p n cap)) : bX C (.call ⟨.builtin .len, [x].toArray, #[t]⟩) ty E L (.int .i64 n) L :=
 dR fun d pos aft g a w ha => by simp [execOp, resolve, invoke, builtin, Builtin.len_, ha.eval h, run_underlying ht, goInt]
theorem KU {x : Operand} {t ty' : TypeId} {e : TypeId} {p : Option Addr} {n cap : Nat} (ht : C.P.underlying t = some (.slice e)) (h : ay E x = some (.slice p n cap)) : bX C (.call ⟨.builtin .cap, [x].toArray, #[t]⟩) ty E L (.int .i64 cap) L :=
 dR fun d pos aft g a w ha => by simp [execOp, resolve, invoke, builtin, Builtin.cap_, ha.eval h, run_underlying ht, goInt]
theorem vF {x y : Operand} {tys : Array TypeId} {k : IntKind} {m n : Int} (hx : ay E x = some (.int k m)) (hy : ay E y = some (.int k n)) : bX C (.call ⟨.builtin .min, [x, y].toArray, tys⟩) ty E L (.int k (if n < m then n else m)) L :=
 dR fun d pos aft g a w ha => by simp [execOp, resolve, invoke, builtin, Builtin.min_, Builtin.min2, ha.eval hx, ha.eval hy]
theorem vG {x y : Operand} {tys : Array TypeId} {k : IntKind} {m n : Int} (hx : ay E x = some (.int k m)) (hy : ay E y = some (.int k n)) : bX C (.call ⟨.builtin .max, [x, y].toArray, tys⟩) ty E L (.int k (if m < n then n else m)) L :=
 dR fun d pos aft g a w ha => by simp [execOp, resolve, invoke, builtin, Builtin.max_, Builtin.max2, ha.eval hx, ha.eval hy]
theorem E8 {x y : Operand} {t b o q n cap T sz : Nat} {vs vs' : List Value} {u : Value} (i : Nat) (hs : cZ C.P t = true) (hx : ay E x = some (.pointer (some ⟨b, q, none⟩))) (hy : ay E y = some u) (h1 : u.oneCell' = true)
  (hr : ks L (Sl (some ⟨b, o, none⟩) n cap T sz vs) (Sl (some ⟨b, o, none⟩) n cap T sz vs') L') (hq : q = o + i) (hlt : i < vs.length) (hc : vs.set i u = vs') : bX C (.store t x y) ty E L undef L' := by
 intro d pos aft g a w ha hi
 obtain ⟨F, p1, p2⟩ := hr.perm
 obtain ⟨⟨b', o', pre, post⟩, ⟨e1, e2, e3, e4, e5⟩, hi1⟩ := (hi.perm p1).pS (ι := Nat × Nat × List Value × List Value) (K := fun z => (some (⟨b, o, none⟩ : Addr) = some ⟨z.1, z.2.1, none⟩) ∧ z.2.2.1.length = z.2.1 ∧ vs.length = n * sz ∧ (cap - n) * sz ≤ z.2.2.2.length ∧ n ≤ cap)
  (B := fun z => [av z.1 T (z.2.2.1 ++ vs ++ z.2.2.2)]) (by
   rintro h (⟨e, _⟩ | ⟨b', o', pre, post, e1, e2, e3, e4, e5, e6⟩)
   ·cases e
   ·exact ⟨(b', o', pre, post), ⟨e1, e3, e4, e5, e6⟩, h, fun _ => none, fun _ => .inr rfl, Hp.le_refl _, fun _ _ e => by simp at e, e2, trivial⟩)
 simp only at e1 e2 e3 e4 e5 hi1
 cases e1
 subst hq
 obtain ⟨w', hr1, hi2, _⟩ := bV (C := C) (E := E) (ty := ty) (o := o + i) (cs := pre ++ vs ++ post) (cs' := pre ++ vs' ++ post) hs hx hy h1 (ks.head (L := F)) (by simp; omega) (by
  rw [← hc, List.append_assoc, List.set_append_right _ _ (by omega), show o + i - pre.length = i by omega, List.set_append_left _ _ hlt, List.append_assoc]) d pos aft g a w ha hi1
 refine ⟨w', hr1, ?_, fun h => by cases h⟩
 refine Inv.perm ?_ p2
 refine Inv.cls (B := [av b T (pre ++ vs' ++ post)]) ?_ hi2
 rintro h ⟨h1, h2, _, l1, _, c, _⟩
 exact .inr ⟨b, o, pre, post, rfl, l1 _ _ c, e2, by rw [← hc]; simpa using e3, e4, e5⟩
def gK (p : Option Addr) (l m sz : Nat) : Option Addr := if m = l then p else p.map (·.add (l * sz))
theorem nL (p : Option Addr) (m sz : Nat) : gK p 0 m sz = p := by
 unfold gK
 split
 ·rfl
 ·cases p <;> simp [Addr.add]
theorem Bv (b o l m sz : Nat) (h : l < m) : gK (some ⟨b, o, none⟩) l m sz = some ⟨b, o + l * sz, none⟩ := by
 unfold gK
 rw [if_neg (by omega)]
 simp [Addr.hJ]
theorem fz {x : Operand} {lo hi mx : Option Operand} {t e sz by_ n cap : Nat} {p : Option Addr} (l r m : Nat) (ht : sliceB C.P t = some (e, sz, by_)) (hx : ay E x = some (.slice p n cap))
  (hl : match lo with | none => l = 0 | some z => ∃ k, ay E z = some (.int k (l : Int)))
  (hr : match hi with | none => r = n ∧ mx = none | some z => ∃ k, ay E z = some (.int k (r : Int)))
  (hm : match mx with | none => m = cap | some z => ∃ k, ay E z = some (.int k (m : Int)))
  (h1 : l ≤ r) (h2 : r ≤ m) (h3 : m ≤ cap) : bX C (.slice t x lo hi mx) ty E L (.slice (gK p l m sz) (r - l) (m - l)) L :=
 dR fun d pos aft g a w ha => by
  obtain ⟨e1, i, e2, e3, e4⟩ := je ht
  have key : ∀ (z : Operand) (j y : Nat) (c : BoundsCode) k, ay E z = some (.int k (j : Int)) → j ≤ y → (Instr.sliceBound (a.eval z) y c).run C.P w = .ok j w := by
   intro z j y c k hz hj
   have : (j : Int) ≤ (y : Int) := by omega
   simp [Instr.sliceBound, ha.eval hz, asIntOf, hj]
  have hb : (Instr.sliceBounds true n cap (lo.map a.eval) (hi.map a.eval) (mx.map a.eval)).run C.P w = .ok (l, r, m) w := by
   unfold Instr.sliceBounds
   cases mx with
   | none =>
    simp only at hm
    subst hm
    cases hi with
    | none =>
     simp only at hr
     obtain ⟨rfl, _⟩ := hr
     cases lo with
     | none => simp only at hl; subst hl; simp
     | some z => simp only at hl; obtain ⟨k, hz⟩ := hl; simp [key z l _ _ k hz h1]
    | some y =>
     simp only at hr
     obtain ⟨k', hy⟩ := hr
     cases lo with
     | none => simp only at hl; subst hl; simp [key y r _ _ k' hy h2]
     | some z => simp only at hl; obtain ⟨k, hz⟩ := hl; simp [key z l _ _ k hz h1, key y r _ _ k' hy h2]
   | some u =>
    simp only at hm
    obtain ⟨k2, hu⟩ := hm
    cases hi with
    | none => simp at hr
    | some y =>
     simp only at hr
     obtain ⟨k', hy⟩ := hr
     cases lo with
     | none => simp only at hl; subst hl; simp [key y r _ _ k' hy h2, key u m _ _ k2 hu h3]
     | some z => simp only at hl; obtain ⟨k, hz⟩ := hl; simp [key z l _ _ k hz h1, key y r _ _ k' hy h2, key u m _ _ k2 hu h3]
  simp [execOp, ha.eval hx, Instr.sliceAt, run_underlying e1, Instr.slice, hb, run_sizeOf e2, e3, gK]
end
end Go.Sl

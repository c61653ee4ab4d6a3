/- Walks of functions that the law reaches, and what they lean on; no conditions. -/
import Derived.Test.YtookicfejdbddaaGreatM0
import Derived.Laws.AppendOwn
import Derived.Laws.MakeOwn
import Derived.Still
set_option linter.unusedVariables false
set_option linter.unusedSimpArgs false
set_option linter.unnecessarySimpa false
set_option maxRecDepth 100000
namespace Go.Sl
open Go.RowKit (Below)
def Ctr (P : Program) (f : FuncId) (args : List Value) (Pre : List HProp) (Post : Ending → List HProp → Prop) : Prop :=
  ∀ w0 F w, Inv w0 (Pre ++ F) w → Calls P f args.toArray w fun e w' => ∃ G, Inv w0 (G ++ F) w' ∧ Post e G
def Ret (R : Value → List HProp → Prop) : Ending → List HProp → Prop := fun e G => ∃ v, e = .returned v ∧ R v G
theorem Ctr.mono {P : Program} {f : FuncId} {args : List Value} {Pre : List HProp} {Post Post' : Ending → List HProp → Prop} (h : Ctr P f args Pre Post) (hp : ∀ e G, Post e G → Post' e G) : Ctr P f args Pre Post' :=
  fun w0 F w hi => (h w0 F w hi).mono fun e w' ⟨G, h1, h2⟩ => ⟨G, h1, hp e G h2⟩
theorem Ctr.frame {P : Program} {f : FuncId} {args : List Value} {Pre : List HProp} {R : Value → List HProp → Prop} (h : Ctr P f args Pre (Ret R)) (M : List HProp) : Ctr P f args (Pre ++ M) (Ret fun v G => ∃ G', R v G' ∧ G = G' ++ M) :=
  fun w0 F w hi => (h w0 (M ++ F) w (by rw [← List.append_assoc]; exact hi)).mono fun e w' ⟨G, h1, v, e1, h2⟩ => ⟨G ++ M, by rw [List.append_assoc]; exact h1, v, e1, G, h2, rfl⟩
def evs (E : Env) : List Operand → Option (List Value)
  | [] => some []
  | x :: xs => match evalE E x with | some v => (match evs E xs with | some vs => some (v :: vs) | none => none) | none => none
theorem Agr.evs {C : Ctx} {E : Env} {a : Act} (h : Agr C E a) : ∀ {xs : List Operand} {vs : List Value}, evs E xs = some vs → xs.toArray.map a.eval = vs.toArray
  | [], vs, e => by simp only [Sl.evs] at e; cases e; simp
  | x :: xs, vs, e => by
    simp only [Sl.evs] at e
    split at e <;> try simp at e
    rename_i v hv
    split at e <;> try simp at e
    rename_i us hus
    subst e
    have := Agr.evs h hus
    simp at this ⊢
    exact ⟨h.eval hv, this⟩
inductive Rems : List HProp → List HProp → List HProp → Prop
  | nil {L : List HProp} : Rems L [] L
  | cons {L M F Pre : List HProp} {A : HProp} : Rem L A M → Rems M Pre F → Rems L (A :: Pre) F
theorem Rems.perm {L Pre F : List HProp} (h : Rems L Pre F) : L.Perm (Pre ++ F) := by
  induction h with
  | nil => exact List.Perm.refl _
  | cons h _ ih => exact h.perm.trans (List.Perm.cons _ ih)
theorem run_callFunc {P : Program} {f : FuncId} (hb : bodyB P f = true) (vs : Array Value) (w : World) : (callFunc f vs).run P w = .ok (.enter f vs) w := by
  unfold bodyB at hb
  split at hb <;> try simp at hb
  rename_i fn hfn
  obtain ⟨h1, h2⟩ := hb
  have h3 : fn.body ≠ none := by intro e; rw [e] at h1; cases h1
  simp [callFunc, hfn, h2, h3]
section
variable {C : Ctx} {Q : QT} {E : Env} {L L' : List HProp} {ops : Array Oper} {rest : List Oper} {d : Nat} {ty : TypeId} {pos : String} {aft : Array Edge} {op : Op} {v : Value}
theorem x_call {f : FuncId} {args : List Operand} {tys : Array TypeId} {vs : List Value} {Pre F : List HProp} {R : Value → List HProp → Prop} (hS : Ctr C.P f vs Pre (Ret R)) (hb : bodyB C.P f = true) (hE : evs E args = some vs) (hL : Rems L Pre F) :
    OpX C (.call ⟨.value (.func f), args.toArray, tys⟩) ty E L (fun v L' => ∃ G, R v G ∧ L' = G ++ F) := by
  intro d pos aft g a w K Qx ha hi hK
  have hargs := ha.evs hE
  have hr : (execOp a.eval ⟨d, .call ⟨.value (.func f), args.toArray, tys⟩, ty, pos, aft, g⟩).run C.P w = .ok (.enter f vs.toArray) w := by
    simp only [execOp, resolve, hargs, Deferred.ofValue, Act.eval, invoke, Sem.run_bind, Sem.run_pure, Result.andThen_ok, Array.append_empty, Array.empty_append, run_callFunc hb]
  unfold Oper.wp
  rw [hr]
  refine (hS C.w0 F w (hi.perm hL.perm)).mono ?_
  rintro e w' ⟨G, h1, v, rfl, h2⟩
  exact hK v (G ++ F) w' ⟨G, h2, rfl⟩ h1
theorem o_call {f : FuncId} {args : List Operand} {tys : Array TypeId} {vs : List Value} {Pre F : List HProp} {R : Value → List HProp → Prop} (hS : Ctr C.P f vs Pre (Ret R)) (hb : bodyB C.P f = true) (hE : evs E args = some vs) (hL : Rems L Pre F) (hd : Nat.blt d C.n = true)
    (k : ∀ v G, R v G → Ops C ops rest Q ((d, v) :: E) (G ++ F)) : Ops C ops (⟨some d, .call ⟨.value (.func f), args.toArray, tys⟩, ty, pos, aft, none⟩ :: rest) Q E L :=
  o_any (x_call hS hb hE hL) hd fun v L' ⟨G, h1, e⟩ => by subst e; exact k v G h1
theorem o_callF {f : FuncId} {t : Nat} {args : List Operand} {tys : Array TypeId} {vs fs cs : List Value} {Pre F : List HProp} {R : Value → List HProp → Prop} (hS : Ctr C.P f (fs ++ vs ++ cs) Pre (Ret R)) (hb : bodyB C.P f = true) (ht : E.get t = some (.func (.func f) fs.toArray cs.toArray)) (hE : evs E args = some vs) (hL : Rems L Pre F) (hd : Nat.blt d C.n = true)
    (k : ∀ v G, R v G → Ops C ops rest Q ((d, v) :: E) (G ++ F)) : Ops C ops (⟨some d, .call ⟨.value (.tmp t), args.toArray, tys⟩, ty, pos, aft, none⟩ :: rest) Q E L := by
  intro a w ha hi
  refine wpList_plain rfl (fun K hK => ?_)
  have hargs := ha.evs hE
  have hev := ha.eval (x := .tmp t) ht
  have hr : (execOp a.eval ⟨some d, .call ⟨.value (.tmp t), args.toArray, tys⟩, ty, pos, aft, none⟩).run C.P w = .ok (.enter f (fs ++ vs ++ cs).toArray) w := by
    simp only [execOp, resolve, hargs, hev, Deferred.ofValue, invoke, Sem.run_bind, Sem.run_pure, Result.andThen_ok, run_callFunc hb]
    simp
  unfold Oper.wp
  rw [hr]
  refine (hS C.w0 F w (hi.perm hL.perm)).mono ?_
  rintro e w' ⟨G, h1, v, rfl, h2⟩
  exact hK _ _ (k v G h2 _ _ (ha.put (blt_lt hd) _) h1)
inductive Drop : List HProp → List HProp → Prop
  | refl {L : List HProp} : Drop L L
  | skip {A : HProp} {L F : List HProp} : Drop L F → Drop (A :: L) F
  | keep {A : HProp} {L F : List HProp} : Drop L F → Drop (A :: L) (A :: F)
theorem Drop.inv {w0 w : World} {L F : List HProp} (h : Drop L F) : ∀ {M : List HProp}, Inv w0 (M ++ L) w → Inv w0 (M ++ F) w := by
  induction h with
  | refl => exact fun h => h
  | @skip A L F _ ih => exact fun {M} h => ih ((h.perm List.perm_middle).tail)
  | @keep A L F _ ih =>
    intro M h
    have := ih (M := M ++ [A]) (by simpa using h)
    simpa using this
def Sub (L M : List HProp) : Prop := ∀ (w0 w : World), Inv w0 L w → Inv w0 M w
theorem sub {L G M F : List HProp} (h : Rems L G M) (d : Drop M F) : Sub L (G ++ F) := fun _ _ hi => d.inv (hi.perm h.perm)
theorem Sub.refl (L : List HProp) : Sub L L := fun _ _ h => h
theorem Sub.trans {L M N : List HProp} (h : Sub L M) (k : Sub M N) : Sub L N := fun w0 w hi => k w0 w (h w0 w hi)
theorem fold {A : HProp} {B F : List HProp} (hA : ∀ w0 h, sats w0 B h → A w0 h) : Sub (B ++ F) (A :: F) := fun w0 w hi => hi.cls (fun h s => hA w0 h s)
def ResE (C : Ctx) (rs : Array ResultVar) (E : Env) (L : List HProp) (v : Value) : Prop := ∀ fn a w, fn.results = rs → Agr C E a → Inv C.w0 L w → (results fn a.tmps).run C.P w = .ok v w
theorem res0 : ResE C #[] E L (.tuple #[]) := fun fn a w hr ha hi => by simp [results, hr]
theorem res1 {t : Nat} (h : E.get t = some v) : ResE C #[.tmp t] E L v := fun fn a w hr ha hi => by simp [results, hr, ha.get _ _ h]
theorem res2 {t u : Nat} {v1 v2 : Value} (h1 : E.get t = some v1) (h2 : E.get u = some v2) : ResE C #[.tmp t, .tmp u] E L (.tuple #[v1, v2]) := fun fn a w hr ha hi => by simp [results, hr, ha.get _ _ h1, ha.get _ _ h2]
theorem res3 {t u x : Nat} {v1 v2 v3 : Value} (h1 : E.get t = some v1) (h2 : E.get u = some v2) (h3 : E.get x = some v3) : ResE C #[.tmp t, .tmp u, .tmp x] E L (.tuple #[v1, v2, v3]) := fun fn a w hr ha hi => by simp [results, hr, ha.get _ _ h1, ha.get _ _ h2, ha.get _ _ h3]
def retQ (C : Ctx) (rs : Array ResultVar) (F : List HProp) (Post : Ending → List HProp → Prop) : QT := fun e E L => match e with
  | .normal => ∃ v G, ResE C rs E L v ∧ Post (.returned v) G ∧ Sub L (G ++ F)
  | .ret => ∃ v G, ResE C rs E L v ∧ Post (.returned v) G ∧ Sub L (G ++ F)
  | .panic ch => ∃ G, Post (.panicked ch) G ∧ Sub L (G ++ F)
  | _ => False
theorem ret_ok {rs : Array ResultVar} {F G : List HProp} {R : Value → List HProp → Prop} (hr : ResE C rs E L v) (hR : R v G) (hs : Sub L (G ++ F)) : retQ C rs F (Ret R) .ret E L := ⟨v, G, hr, ⟨v, rfl, hR⟩, hs⟩
theorem end_ok {rs : Array ResultVar} {F G : List HProp} {R : Value → List HProp → Prop} (hr : ResE C rs E L v) (hR : R v G) (hs : Sub L (G ++ F)) : retQ C rs F (Ret R) .normal E L := ⟨v, G, hr, ⟨v, rfl, hR⟩, hs⟩
def argE : Nat → List Value → Env
  | _, [] => []
  | i, v :: vs => (i, v) :: argE (i + 1) vs
theorem argE_get : ∀ (i : Nat) (vs : List Value) (d : Nat) (u : Value), (argE i vs).get d = some u → i ≤ d ∧ vs[d - i]? = some u
  | i, [], d, u, h => by cases h
  | i, v :: vs, d, u, h => by
    rw [argE, Env.get_cons] at h
    by_cases e : i = d
    · subst e; simp at h; simp [h]
    · simp only [e, if_false] at h
      obtain ⟨h1, h2⟩ := argE_get (i + 1) vs d u h
      refine ⟨by omega, ?_⟩
      rw [show d - i = d - (i + 1) + 1 by omega]
      simpa using h2
theorem spec_of {P : Program} {f : FuncId} {fn : Func} {c : Code} {args : List Value} {Pre : List HProp} {Post : Ending → List HProp → Prop} {n : Nat} (E : Env) (hf : P.funcs[f]? = some fn) (hb : fn.body = some c) (hn : fn.ntmps = n) (hE : argE 0 args = E) (hl : Nat.ble args.length n = true)
    (h : ∀ w0 F, Wp ⟨P, w0, n, [], fun ch L => ∃ G, Post (.panicked ch) G ∧ Sub L (G ++ F)⟩ c (retQ ⟨P, w0, n, [], fun ch L => ∃ G, Post (.panicked ch) G ∧ Sub L (G ++ F)⟩ fn.results F Post) E (Pre ++ F)) : Ctr P f args Pre Post := by
  intro w0 F w hi
  have hl := Nat.le_of_ble_eq_true hl
  refine calls_of_wp hf hb (Code.wp_mono ?_ (h w0 F _ w ?_ hi))
  · rintro e a w' ⟨E', L', ha', hi', hq⟩
    cases e with
    | normal => obtain ⟨v, G, h1, h2, h3⟩ := hq; exact ⟨ha'.defers, v, h1 fn a w' rfl ha' hi', G, h3 _ _ hi', h2⟩
    | ret => obtain ⟨v, G, h1, h2, h3⟩ := hq; exact ⟨ha'.defers, v, h1 fn a w' rfl ha' hi', G, h3 _ _ hi', h2⟩
    | panic ch => obtain ⟨G, h1, h2⟩ := hq; exact ⟨ha'.defers, G, h2 _ _ hi', h1⟩
    | exit _ => exact hq
    | goto _ => exact hq
    | outgrown => exact hq.elim
  · refine ⟨rfl, ?_, ?_⟩
    · simp [hn]; omega
    · intro d v hd
      rw [← hE] at hd
      obtain ⟨_, h2⟩ := argE_get 0 args d v hd
      have hlt := (List.getElem?_eq_some_iff.1 h2).1
      simp at h2 hlt ⊢
      rw [Array.getElem?_append_left (by simpa using hlt)]
      simpa using h2
def cellH (w0 : World) (h : Hp) (a : Addr) : Option Value := match h a.block with
  | some (.cells c _ _) => if a.spot.isSome then none else c[a.off]?
  | some _ => none
  | none => if a.block < w0.heap.size then w0.cell? a else none
theorem cellH_cell {w0 w : World} {h : Hp} {a : Addr} {u : Value} (hb : Below w0.heap.size w0 w) (hh : ∀ b o, h b = some o → w0.heap.size ≤ b ∧ w.heap[b]? = some o) (e : cellH w0 h a = some u) : w.cell? a = some u := by
  unfold cellH at e
  split at e
  · rename_i c T fr hc
    have := (hh _ _ hc).2
    simp only [World.cell?, this]
    exact e
  · cases e
  · split at e
    · rename_i hlt; rw [hb.cell hlt]; exact e
    · cases e
def Rd (p : Option Addr) (n sz : Nat) (vs : List Value) : HProp := fun w0 h => vs.length = n * sz ∧ (n = 0 ∨ ∃ b o, p = some ⟨b, o, none⟩ ∧ ∀ i v, vs[i]? = some v → cellH w0 h ⟨b, o + i, none⟩ = some v)
def Sl (p : Option Addr) (n cap : Nat) (T : TypeId) (sz : Nat) (vs : List Value) : HProp := fun w0 h =>
  (p = none ∧ n = 0 ∧ cap = 0 ∧ vs = []) ∨
  ∃ b o pre post, p = some ⟨b, o, none⟩ ∧ Cel b T (pre ++ vs ++ post) w0 h ∧ pre.length = o ∧ vs.length = n * sz ∧ (cap - n) * sz ≤ post.length ∧ n ≤ cap
theorem Sl.rd {p : Option Addr} {n cap T sz : Nat} {vs : List Value} {w0 : World} {h : Hp} (hs : Sl p n cap T sz vs w0 h) : Rd p n sz vs w0 h := by
  rcases hs with ⟨rfl, rfl, rfl, rfl⟩ | ⟨b, o, pre, post, rfl, h1, h2, h3, h4, h5⟩
  · exact ⟨by simp, .inl rfl⟩
  · refine ⟨h3, .inr ⟨b, o, rfl, fun i v hv => ?_⟩⟩
    obtain ⟨_, h1⟩ := h1
    have hlt := (List.getElem?_eq_some_iff.1 hv).1
    simp only [cellH, h1, Option.isSome_none, Bool.false_eq_true, if_false, List.getElem?_toArray]
    rw [List.append_assoc, List.getElem?_append_right (by omega), h2, show o + i - o = i by omega, List.getElem?_append_left hlt, hv]
theorem Inv.rd {w0 w : World} {L : List HProp} {R : HProp} {p : Option Addr} {n sz : Nat} {vs : List Value} (hi : Inv w0 L w) (hm : R ∈ L) (hR : ∀ h, R w0 h → Rd p n sz vs w0 h) :
    vs.length = n * sz ∧ (n = 0 ∨ ∃ b o, p = some ⟨b, o, none⟩ ∧ ∀ i v, vs[i]? = some v → w.cell? ⟨b, o + i, none⟩ = some v) := by
  obtain ⟨F, hb, h, a, h1, h2, d, l1, l2, hp, k⟩ := hi.mem hm
  obtain ⟨e1, e2⟩ := hR h1 hp
  refine ⟨e1, e2.imp id ?_⟩
  rintro ⟨b, o, rfl, hc⟩
  exact ⟨b, o, rfl, fun i v hv => cellH_cell hb (fun b o e => a b o (l1 b o e)) (hc i v hv)⟩
theorem Inv.add0 {w0 w : World} {L : List HProp} {A : HProp} (hi : Inv w0 L w) (hA : A w0 (fun _ => none)) : Inv w0 (A :: L) w :=
  ⟨hi.below, let ⟨h, a, k⟩ := hi.heap; ⟨h, a, fun _ => none, h, fun _ => .inl rfl, fun _ _ e => by simp at e, Hp.le_refl _, hA, k⟩⟩
theorem w_fact {c : Code} {p : Prop} (h : ∀ w, Inv C.w0 L w → p) (k : p → Wp C c Q E L) : Wp C c Q E L := fun a w ha hi => k (h w hi) a w ha hi
theorem sl_facts {w0 w : World} {L : List HProp} {p : Option Addr} {n cap T sz : Nat} {vs : List Value} (hi : Inv w0 L w) (hm : Sl p n cap T sz vs ∈ L) :
    vs.length = n * sz ∧ n ≤ cap ∧ (n = 0 ∨ ∃ b o, p = some ⟨b, o, none⟩) := by
  obtain ⟨F, hb, h, a, h1, h2, d, l1, l2, hp, k⟩ := hi.mem hm
  rcases hp with ⟨rfl, rfl, rfl, rfl⟩ | ⟨b, o, pre, post, rfl, e1, e2, e3, e4, e5⟩
  · exact ⟨by simp, Nat.le_refl _, .inl rfl⟩
  · exact ⟨e3, e5, .inr ⟨b, o, rfl⟩⟩
theorem v_len {x : Operand} {t ty' : TypeId} {e : TypeId} {p : Option Addr} {n cap : Nat} (ht : C.P.underlying t = some (.slice e)) (h : evalE E x = some (.slice p n cap)) : OpV C (.call ⟨.builtin .len, [x].toArray, #[t]⟩) ty E L (.int .i64 n) L :=
  pureV fun d pos aft g a w ha => by simp [execOp, resolve, invoke, builtin, Builtin.len_, ha.eval h, run_underlying ht, goInt]
theorem v_cap {x : Operand} {t ty' : TypeId} {e : TypeId} {p : Option Addr} {n cap : Nat} (ht : C.P.underlying t = some (.slice e)) (h : evalE E x = some (.slice p n cap)) : OpV C (.call ⟨.builtin .cap, [x].toArray, #[t]⟩) ty E L (.int .i64 cap) L :=
  pureV fun d pos aft g a w ha => by simp [execOp, resolve, invoke, builtin, Builtin.cap_, ha.eval h, run_underlying ht, goInt]
theorem v_min {x y : Operand} {tys : Array TypeId} {k : IntKind} {m n : Int} (hx : evalE E x = some (.int k m)) (hy : evalE E y = some (.int k n)) : OpV C (.call ⟨.builtin .min, [x, y].toArray, tys⟩) ty E L (.int k (if n < m then n else m)) L :=
  pureV fun d pos aft g a w ha => by simp [execOp, resolve, invoke, builtin, Builtin.min_, Builtin.min2, ha.eval hx, ha.eval hy]
theorem v_max {x y : Operand} {tys : Array TypeId} {k : IntKind} {m n : Int} (hx : evalE E x = some (.int k m)) (hy : evalE E y = some (.int k n)) : OpV C (.call ⟨.builtin .max, [x, y].toArray, tys⟩) ty E L (.int k (if m < n then n else m)) L :=
  pureV fun d pos aft g a w ha => by simp [execOp, resolve, invoke, builtin, Builtin.max_, Builtin.max2, ha.eval hx, ha.eval hy]
theorem v_loadR {x : Operand} {t b o q n sz : Nat} {vs : List Value} {R : HProp} (i : Nat) (hs : scalarB C.P t = true) (hx : evalE E x = some (.pointer (some ⟨b, q, none⟩))) (hm : R ∈ L) (hR : ∀ h, R C.w0 h → Rd (some ⟨b, o, none⟩) n sz vs C.w0 h) (hq : q = o + i) (hv : vs[i]? = some v) : OpV C (.load t x) ty E L v L :=
  v_loadW hs hx fun w hi => by
    obtain ⟨e1, e2⟩ := hi.rd hm hR
    have hlt := (List.getElem?_eq_some_iff.1 hv).1
    rcases e2 with e2 | ⟨b', o', e3, e4⟩
    · subst e2; simp at e1; subst e1; simp at hv
    · cases e3
      subst hq
      exact e4 i v hv
theorem v_storeS {x y : Operand} {t b o q n cap T sz : Nat} {vs vs' : List Value} {u : Value} (i : Nat) (hs : scalarB C.P t = true) (hx : evalE E x = some (.pointer (some ⟨b, q, none⟩))) (hy : evalE E y = some u) (h1 : u.oneCell' = true)
    (hr : Rep L (Sl (some ⟨b, o, none⟩) n cap T sz vs) (Sl (some ⟨b, o, none⟩) n cap T sz vs') L') (hq : q = o + i) (hlt : i < vs.length) (hc : vs.set i u = vs') : OpV C (.store t x y) ty E L undef L' := by
  intro d pos aft g a w ha hi
  obtain ⟨F, p1, p2⟩ := hr.perm
  obtain ⟨⟨b', o', pre, post⟩, ⟨e1, e2, e3, e4, e5⟩, hi1⟩ := (hi.perm p1).opn (ι := Nat × Nat × List Value × List Value) (K := fun z => (some (⟨b, o, none⟩ : Addr) = some ⟨z.1, z.2.1, none⟩) ∧ z.2.2.1.length = z.2.1 ∧ vs.length = n * sz ∧ (cap - n) * sz ≤ z.2.2.2.length ∧ n ≤ cap)
    (B := fun z => [Cel z.1 T (z.2.2.1 ++ vs ++ z.2.2.2)]) (by
      rintro h (⟨e, _⟩ | ⟨b', o', pre, post, e1, e2, e3, e4, e5, e6⟩)
      · cases e
      · exact ⟨(b', o', pre, post), ⟨e1, e3, e4, e5, e6⟩, h, fun _ => none, fun _ => .inr rfl, Hp.le_refl _, fun _ _ e => by simp at e, e2, trivial⟩)
  simp only at e1 e2 e3 e4 e5 hi1
  cases e1
  subst hq
  obtain ⟨w', hr1, hi2, _⟩ := v_store (C := C) (E := E) (ty := ty) (o := o + i) (cs := pre ++ vs ++ post) (cs' := pre ++ vs' ++ post) hs hx hy h1 (Rep.head (L := F)) (by simp; omega) (by
    rw [← hc, List.append_assoc, List.set_append_right _ _ (by omega), show o + i - pre.length = i by omega, List.set_append_left _ _ hlt, List.append_assoc]) d pos aft g a w ha hi1
  refine ⟨w', hr1, ?_, fun h => by cases h⟩
  refine Inv.perm ?_ p2
  refine Inv.cls (B := [Cel b T (pre ++ vs' ++ post)]) ?_ hi2
  rintro h ⟨h1, h2, _, l1, _, c, _⟩
  exact .inr ⟨b, o, pre, post, rfl, c.mono l1, e2, by rw [← hc]; simpa using e3, e4, e5⟩
def subP (p : Option Addr) (l m sz : Nat) : Option Addr := if m = l then p else p.map (·.add (l * sz))
theorem subP_zero (p : Option Addr) (m sz : Nat) : subP p 0 m sz = p := by
  unfold subP
  split
  · rfl
  · cases p <;> simp [Addr.add]
theorem subP_some (b o l m sz : Nat) (h : l < m) : subP (some ⟨b, o, none⟩) l m sz = some ⟨b, o + l * sz, none⟩ := by
  unfold subP
  rw [if_neg (by omega)]
  simp [Addr.add_mk]
theorem v_slice {x : Operand} {lo hi mx : Option Operand} {t e sz by_ n cap : Nat} {p : Option Addr} (l r m : Nat) (ht : sliceB C.P t = some (e, sz, by_)) (hx : evalE E x = some (.slice p n cap))
    (hl : match lo with | none => l = 0 | some z => ∃ k, evalE E z = some (.int k (l : Int)))
    (hr : match hi with | none => r = n ∧ mx = none | some z => ∃ k, evalE E z = some (.int k (r : Int)))
    (hm : match mx with | none => m = cap | some z => ∃ k, evalE E z = some (.int k (m : Int)))
    (h1 : l ≤ r) (h2 : r ≤ m) (h3 : m ≤ cap) : OpV C (.slice t x lo hi mx) ty E L (.slice (subP p l m sz) (r - l) (m - l)) L :=
  pureV fun d pos aft g a w ha => by
    obtain ⟨e1, i, e2, e3, e4⟩ := slice_spec ht
    have key : ∀ (z : Operand) (j y : Nat) (c : BoundsCode) k, evalE E z = some (.int k (j : Int)) → j ≤ y → (Instr.sliceBound (a.eval z) y c).run C.P w = .ok j w := by
      intro z j y c k hz hj
      have : (j : Int) ≤ (y : Int) := by omega
      simp [Instr.sliceBound, ha.eval hz, asIntOf, hj]
    have hb : (Instr.sliceBounds true n cap (lo.map a.eval) (hi.map a.eval) (mx.map a.eval)).run C.P w = .ok (l, r, m) w := by
      unfold Instr.sliceBounds
      cases mx with
      | none =>
        simp only at hm
        subst hm
        cases hi with
        | none =>
          simp only at hr
          obtain ⟨rfl, _⟩ := hr
          cases lo with
          | none => simp only at hl; subst hl; simp
          | some z => simp only at hl; obtain ⟨k, hz⟩ := hl; simp [key z l _ _ k hz h1]
        | some y =>
          simp only at hr
          obtain ⟨k', hy⟩ := hr
          cases lo with
          | none => simp only at hl; subst hl; simp [key y r _ _ k' hy h2]
          | some z => simp only at hl; obtain ⟨k, hz⟩ := hl; simp [key z l _ _ k hz h1, key y r _ _ k' hy h2]
      | some u =>
        simp only at hm
        obtain ⟨k2, hu⟩ := hm
        cases hi with
        | none => simp at hr
        | some y =>
          simp only at hr
          obtain ⟨k', hy⟩ := hr
          cases lo with
          | none => simp only at hl; subst hl; simp [key y r _ _ k' hy h2, key u m _ _ k2 hu h3]
          | some z => simp only at hl; obtain ⟨k, hz⟩ := hl; simp [key z l _ _ k hz h1, key y r _ _ k' hy h2, key u m _ _ k2 hu h3]
    simp [execOp, ha.eval hx, Instr.sliceAt, run_underlying e1, Instr.slice, hb, run_sizeOf e2, e3, subP]
end
end Go.Sl
namespace Go.Sl
open Go.RowKit (Below)
theorem Sl.open_ {p : Option Addr} {n cap T sz : Nat} {vs : List Value} (w0 : World) (h : Hp) (hs : Sl p n cap T sz vs w0 h) :
    ∃ z : Option (Nat × Nat × List Value × List Value), (match z with
      | none => p = none ∧ n = 0 ∧ cap = 0 ∧ vs = []
      | some (b, o, pre, post) => p = some ⟨b, o, none⟩ ∧ pre.length = o ∧ vs.length = n * sz ∧ (cap - n) * sz ≤ post.length ∧ n ≤ cap) ∧
      sats w0 (match z with | none => [] | some (b, o, pre, post) => [Cel b T (pre ++ vs ++ post)]) h := by
  rcases hs with ⟨rfl, rfl, rfl, rfl⟩ | ⟨b, o, pre, post, e1, e2, e3, e4, e5, e6⟩
  · exact ⟨none, ⟨rfl, rfl, rfl, rfl⟩, trivial⟩
  · exact ⟨some (b, o, pre, post), ⟨e1, e3, e4, e5, e6⟩, h, fun _ => none, fun _ => .inr rfl, Hp.le_refl _, fun _ _ e => by simp at e, e2, trivial⟩
theorem Sl.mk {b o n cap T sz : Nat} {pre vs post : List Value} {w0 : World} {h : Hp} (hc : sats w0 [Cel b T (pre ++ vs ++ post)] h) (h1 : pre.length = o) (h2 : vs.length = n * sz) (h3 : (cap - n) * sz ≤ post.length) (h4 : n ≤ cap) : Sl (some ⟨b, o, none⟩) n cap T sz vs w0 h := by
  obtain ⟨g, g2, _, l1, _, c, _⟩ := hc
  exact .inr ⟨b, o, pre, post, rfl, c.mono l1, h1, h2, h3, h4⟩
theorem Cel.sl {b n T sz : Nat} {vs : List Value} {w0 : World} {h : Hp} (hc : Cel b T vs w0 h) (h2 : vs.length = n * sz) : Sl (some ⟨b, 0, none⟩) n n T sz vs w0 h :=
  .inr ⟨b, 0, [], [], rfl, by simpa using hc, rfl, h2, by simp, Nat.le_refl _⟩
theorem Sl.nil (T sz : Nat) (w0 : World) (h : Hp) : Sl none 0 0 T sz [] w0 h := .inl ⟨rfl, rfl, rfl, rfl⟩
theorem Inv.sl_nil {w0 w : World} {L : List HProp} (hi : Inv w0 L w) (T sz : Nat) : Inv w0 (Sl none 0 0 T sz [] :: L) w := hi.add0 (Sl.nil T sz _ _)
section
variable {C : Ctx} {Q : QT} {E : Env} {L L' : List HProp} {ops : Array Oper} {rest : List Oper} {d : Nat} {ty : TypeId} {pos : String} {aft : Array Edge} {op : Op} {v : Value}
theorem w_add0 {c : Code} (A : HProp) (hA : A C.w0 (fun _ => none)) (k : Wp C c Q E (A :: L)) : Wp C c Q E L := fun a w ha hi => k a w ha (hi.add0 hA)
theorem run_resolve_builtin {b : Builtin} {xs : List Operand} {tys : Array TypeId} {vs : List Value} {a : Act} (hx : xs.toArray.map a.eval = vs.toArray) (d : Option Nat) (g : Option (Nat × Bool)) (w : World) :
    ∃ consts, (execOp a.eval ⟨d, .call ⟨.builtin b, xs.toArray, tys⟩, ty, pos, aft, g⟩).run C.P w = (builtin b tys ty consts vs.toArray).run C.P w := by
  refine ⟨xs.toArray.map fun | .const _ => true | _ => false, ?_⟩
  simp only [execOp, resolve, hx, Sem.run_bind, Sem.run_pure, Result.andThen_ok, invoke]
  rfl
theorem x_append {s x : Operand} {t e sz by_ n m cap cap2 : Nat} {p p2 : Option Addr} {vs ws zs : List Value} {R : HProp} {F : List HProp}
    (ht : sliceB C.P t = some (e, sz, by_)) (hz : zeroB C.P e = some zs) (hsz : Nat.ble 1 sz = true) (hby : Nat.ble 1 by_ = true)
    (hs : evalE E s = some (.slice p n cap)) (hx : evalE E x = some (.slice p2 m cap2))
    (hL : Rem L (Sl p n cap e sz vs) F) (hm : R ∈ L) (hR : ∀ h, R C.w0 h → Rd p2 m sz ws C.w0 h) (h1 : ws.all Value.oneCell' = true) (hb : (n + m) * by_ ≤ 140737488355328) :
    OpX C (.call ⟨.builtin .append, [s, x].toArray, #[t, t]⟩) ty E L (fun v L' => ∃ p' cap', v = .slice p' (n + m) cap' ∧ L' = Sl p' (n + m) cap' e sz (vs ++ ws) :: F) := by
  intro d pos aft g a w K Qx ha hi hK
  obtain ⟨ht1, i, hi2, rfl, rfl⟩ := slice_spec ht
  obtain ⟨i', z, hz1, hz2, hz3, hz4⟩ := zero_spec hz
  rw [hi2] at hz1
  cases hz1
  have hsz := Nat.le_of_ble_eq_true hsz
  have hby := Nat.le_of_ble_eq_true hby
  have hnm : n + m ≤ (n + m) * i.bytes := Nat.le_mul_of_pos_right _ hby
  have hsmall : n + m ≤ 140737488355328 := by omega
  obtain ⟨hwl, hwc⟩ := hi.rd hm hR
  obtain ⟨consts, hrun⟩ := run_resolve_builtin (C := C) (ty := ty) (pos := pos) (aft := aft) (b := .append) (xs := [s, x]) (tys := #[t, t]) (vs := [.slice p n cap, .slice p2 m cap2]) (a := a) (by simp [ha.eval hs, ha.eval hx]) d g w
  suffices h : ∃ p' cap' w', (Builtin.append_ #[t, t] ty #[.slice p n cap, .slice p2 m cap2]).run C.P w = .ok (.slice p' (n + m) cap') w' ∧ Inv C.w0 (Sl p' (n + m) cap' e i.size (vs ++ ws) :: F) w' by
    obtain ⟨p', cap', w', hr, hi'⟩ := h
    unfold Oper.wp
    rw [hrun]
    simp only [builtin, Sem.run_bind, hr, Result.andThen_ok, Sem.run_pure]
    exact hK _ _ _ ⟨p', cap', rfl, rfl⟩ hi'
  have hfirst : ∀ w1 : World, (∀ q, w1.cell? q = w.cell? q) → (Builtin.firstCells i.size m (.slice p2 m cap2)).run C.P w1 = .ok ws.toArray w1 := by
    intro w1 hw1
    by_cases hm0 : m = 0
    · subst hm0
      simp at hwl
      subst hwl
      cases p2 <;> simp [Builtin.firstCells, loadCells, loadCellsFrom]
    · rcases hwc with hwc | ⟨b2, o2, rfl, hc⟩
      · exact absurd hwc hm0
      · exact run_firstCells_some (P := C.P) w1 i.size m _ m cap2 ws hwl (fun j v hj => by rw [hw1, Addr.add_mk]; exact hc j v hj)
  have hall : ∀ u ∈ ws, u.oneCell' = true := fun u hu => by simpa using List.all_eq_true.1 h1 u hu
  have hgrow : ∀ (vs0 : List Value), vs0 = vs → n * i.size = vs.length → cap < n + m →
      (∀ w1 : World, (∀ q, w1.cell? q = w.cell? q) → (Builtin.firstCells i.size n (.slice p n cap)).run C.P w1 = .ok vs.toArray w1) →
      Inv C.w0 F w →
      ∃ p' cap' w', (Builtin.append_ #[t, t] ty #[.slice p n cap, .slice p2 m cap2]).run C.P w = .ok (.slice p' (n + m) cap') w' ∧ Inv C.w0 (Sl p' (n + m) cap' e i.size (vs ++ ws) :: F) w' := by
    intro vs0 _ hvl hlt hold hiF
    have hfit : Builtin.nextslicecap (n + m) cap * i.bytes ≤ 281474976710656 := growslice_fits hlt hb
    have h63 : ¬ (9223372036854775807 < ((n : Int) + (m : Int))) := by omega
    have h48 : ¬ (281474976710656 < Builtin.nextslicecap (n + m) cap * i.bytes) := by omega
    have hng : ¬ (n + m ≤ cap) := by omega
    refine ⟨some ⟨w.heap.size, 0, none⟩, grownCap w (n + m) cap e, w.drew.alloc (.cells (vs ++ ws ++ (Builtin.zeroCells z.cells (grownCap w (n + m) cap e - (n + m))).toList).toArray e), ?_, ?_⟩
    · have e1 := hold w.drew (fun q => by simp)
      have e2 := hfirst w.drew (fun q => by simp)
      have harr : ∀ Z : Array Value, (vs ++ ws ++ Z.toList).toArray = vs.toArray ++ ws.toArray ++ Z := fun Z => by apply Array.ext'; simp
      rw [harr]
      simp [Builtin.append_, run_underlying ht1, sizeOf, typeInfo, zeroValue, hi2, hz2, Builtin.lenOf, hng, h63, h48, Question.forced, e1, e2, newRow, grownCap]
      congr 1
      congr 1
      apply Array.ext'
      simp
    · have hge := grownCap_ge w (n + m) cap e
      refine Inv.imp ?_ (hiF.drew.alloc e (vs ++ ws ++ (Builtin.zeroCells z.cells (grownCap w (n + m) cap e - (n + m))).toList))
      intro h hc
      refine .inr ⟨_, 0, [], (Builtin.zeroCells z.cells (grownCap w (n + m) cap e - (n + m))).toList, rfl, by simpa using hc, rfl, ?_, ?_, hge⟩
      · simp [← hvl, hwl, Nat.add_mul]
      · have : z.cells.size = i.size := by rw [hz3, hz4]; simp
        simp [size_zeroCells, this]
  obtain ⟨zz, hzz, hi1⟩ := (hi.perm hL.perm).opn (Sl.open_ C.w0)
  cases zz with
  | none =>
    obtain ⟨rfl, rfl, rfl, rfl⟩ := hzz
    by_cases hm0 : m = 0
    · subst hm0
      simp at hwl
      subst hwl
      refine ⟨none, 0, w, ?_, (hi1.sl_nil e i.size)⟩
      have e1 := hfirst w (fun q => rfl)
      simp [Builtin.append_, run_underlying ht1, sizeOf, typeInfo, hi2, Builtin.lenOf, e1]
    · exact hgrow [] rfl (by simp) (by omega) (fun w1 _ => by simp [Builtin.firstCells]) hi1
  | some zz =>
    obtain ⟨b, o, pre, post⟩ := zz
    obtain ⟨rfl, e1, e2, e3, e4⟩ := hzz
    by_cases hroom : n + m ≤ cap
    · have hfit : o + n * i.size + ws.length ≤ (pre ++ vs ++ post).length := by
        have : (n + m - n) * i.size ≤ (cap - n) * i.size := Nat.mul_le_mul_right _ (by omega)
        rw [show n + m - n = m by omega] at this
        simp only [List.length_append, e1, e2, hwl]
        omega
      obtain ⟨w', hr, hi'⟩ := run_storeCells (C := C) ws (o + n * i.size) 0 _ _ w hall (by simpa using hfit) hi1
      refine ⟨some ⟨b, o, none⟩, cap, w', ?_, ?_⟩
      · have hf := hfirst w (fun q => rfl)
        simp [Builtin.append_, run_underlying ht1, sizeOf, typeInfo, hi2, Builtin.lenOf, hroom, hf, Addr.add_mk, hr]
      · refine Inv.cls (B := [Cel b e (pre ++ (vs ++ ws) ++ post.drop ws.length)]) (fun h hc => Sl.mk hc e1 (by simp [e2, hwl, Nat.add_mul]) ?_ hroom) ?_
        · simp only [List.length_drop, hwl]
          have : (cap - (n + m)) * i.size = (cap - n) * i.size - m * i.size := by rw [← Nat.sub_mul]; congr 1; omega
          omega
        · have e5 : (pre ++ vs ++ post).take (o + n * i.size + 0) = pre ++ vs := by
            rw [Nat.add_zero]
            exact List.take_left' (by simp [e1, e2])
          have e6 : (pre ++ vs ++ post).drop (o + n * i.size + 0 + ws.length) = post.drop ws.length := by
            rw [Nat.add_zero, show o + n * i.size + ws.length = (pre ++ vs).length + ws.length by simp [e1, e2]]
            rw [← List.drop_drop, List.drop_left]
          rw [e5, e6] at hi'
          simpa [List.append_assoc] using hi'
    · refine hgrow vs rfl e2.symm (by omega) (fun w1 hw1 => ?_) hi1.tail
      refine run_firstCells_some (P := C.P) w1 i.size n _ n cap vs e2 (fun j v hj => ?_)
      have hlt := (List.getElem?_eq_some_iff.1 hj).1
      rw [hw1, Addr.add_mk, Inv.cel_cell hi1]
      rw [List.append_assoc, List.getElem?_append_right (by omega), show o + j - pre.length = j by omega, List.getElem?_append_left hlt]
      exact hj
theorem x_appendDown {s x : Operand} {t e sz by_ n k l cap : Nat} {p : Option Addr} {vs : List Value} {F : List HProp}
    (ht : sliceB C.P t = some (e, sz, by_)) (hs : evalE E s = some (.slice p k cap)) (hx : evalE E x = some (.slice (subP p l cap sz) (n - l) (cap - l)))
    (hL : Rem L (Sl p n cap e sz vs) F) (hkl : k ≤ l) (hln : l ≤ n) (h1 : vs.all Value.oneCell' = true) :
    OpX C (.call ⟨.builtin .append, [s, x].toArray, #[t, t]⟩) ty E L (fun v L' => v = .slice p (k + (n - l)) cap ∧ L' = Sl p (k + (n - l)) cap e sz (vs.take (k * sz) ++ vs.drop (l * sz)) :: F) := by
  intro d pos aft g a w K Qx ha hi hK
  obtain ⟨ht1, i, hi2, rfl, rfl⟩ := slice_spec ht
  obtain ⟨consts, hrun⟩ := run_resolve_builtin (C := C) (ty := ty) (pos := pos) (aft := aft) (b := .append) (xs := [s, x]) (tys := #[t, t]) (vs := [.slice p k cap, .slice (subP p l cap i.size) (n - l) (cap - l)]) (a := a) (by simp [ha.eval hs, ha.eval hx]) d g w
  suffices h : ∃ w', (Builtin.append_ #[t, t] ty #[.slice p k cap, .slice (subP p l cap i.size) (n - l) (cap - l)]).run C.P w = .ok (.slice p (k + (n - l)) cap) w' ∧ Inv C.w0 (Sl p (k + (n - l)) cap e i.size (vs.take (k * i.size) ++ vs.drop (l * i.size)) :: F) w' by
    obtain ⟨w', hr, hi'⟩ := h
    unfold Oper.wp
    rw [hrun]
    simp only [builtin, Sem.run_bind, hr, Result.andThen_ok, Sem.run_pure]
    exact hK _ _ _ ⟨rfl, rfl⟩ hi'
  obtain ⟨zz, hzz, hi1⟩ := (hi.perm hL.perm).opn (Sl.open_ C.w0)
  cases zz with
  | none =>
    obtain ⟨rfl, rfl, rfl, rfl⟩ := hzz
    obtain rfl : l = 0 := by omega
    obtain rfl : k = 0 := by omega
    refine ⟨w, ?_, ?_⟩
    · simp [subP, Builtin.append_, run_underlying ht1, sizeOf, typeInfo, hi2, Builtin.lenOf, Builtin.firstCells]
    · simpa using hi1.sl_nil e i.size
  | some zz =>
    obtain ⟨b, o, pre, post⟩ := zz
    obtain ⟨rfl, e1, e2, e3, e4⟩ := hzz
    have hroom : k + (n - l) ≤ cap := by omega
    have hlsz : l * i.size ≤ n * i.size := Nat.mul_le_mul_right _ hln
    have hksz : k * i.size ≤ l * i.size := Nat.mul_le_mul_right _ hkl
    have hnl : (n - l) * i.size = n * i.size - l * i.size := Nat.sub_mul _ _ _
    have hlen : (vs.drop (l * i.size)).length = (n - l) * i.size := by simp [e2, hnl]
    have hfirst : (Builtin.firstCells i.size (n - l) (.slice (subP (some ⟨b, o, none⟩) l cap i.size) (n - l) (cap - l))).run C.P w = .ok (vs.drop (l * i.size)).toArray w := by
      by_cases hlc : l = cap
      · have : n - l = 0 := by omega
        have h0 : vs.drop (l * i.size) = [] := List.eq_nil_of_length_eq_zero (by rw [hlen, this]; simp)
        rw [h0, this]
        simp [subP, hlc, Builtin.firstCells, loadCells, loadCellsFrom]
      · rw [subP_some _ _ _ _ _ (by omega)]
        refine run_firstCells_some (P := C.P) w i.size (n - l) _ (n - l) (cap - l) _ hlen (fun j v hj => ?_)
        have hlt := (List.getElem?_eq_some_iff.1 hj).1
        rw [hlen] at hlt
        rw [Addr.add_mk, Inv.cel_cell hi1]
        rw [List.getElem?_drop] at hj
        rw [List.append_assoc, List.getElem?_append_right (by omega), show o + l * i.size + j - pre.length = l * i.size + j by omega, List.getElem?_append_left (by omega)]
        exact hj
    have hfit : o + k * i.size + (vs.drop (l * i.size)).length ≤ (pre ++ vs ++ post).length := by
      simp only [List.length_append, e1, e2, hlen]
      omega
    obtain ⟨w', hr, hi'⟩ := run_storeCells (C := C) (vs.drop (l * i.size)) (o + k * i.size) 0 _ _ w (fun u hu => by simpa using List.all_eq_true.1 h1 u (List.mem_of_mem_drop hu)) (by simpa using hfit) hi1
    refine ⟨w', ?_, ?_⟩
    · simp [Builtin.append_, run_underlying ht1, sizeOf, typeInfo, hi2, Builtin.lenOf, hroom, hfirst, Addr.add_mk, hr]
    · refine Inv.cls (B := [Cel b e (pre ++ (vs.take (k * i.size) ++ vs.drop (l * i.size)) ++ (vs ++ post).drop ((k + (n - l)) * i.size))]) (fun h hc => Sl.mk hc e1 ?_ ?_ hroom) ?_
      · rw [List.length_append, hlen, List.length_take, Nat.add_mul, e2, Nat.min_eq_left (by omega)]
      · have : (cap - (k + (n - l))) * i.size = cap * i.size - (k * i.size + (n - l) * i.size) := by rw [← Nat.add_mul, Nat.sub_mul]
        have h5 : (cap - n) * i.size = cap * i.size - n * i.size := Nat.sub_mul _ _ _
        have h6 : n * i.size ≤ cap * i.size := Nat.mul_le_mul_right _ e4
        rw [this]
        simp only [List.length_drop, List.length_append, e2, Nat.add_mul]
        omega
      · have e5 : (pre ++ vs ++ post).take (o + k * i.size + 0) = pre ++ vs.take (k * i.size) := by
          rw [Nat.add_zero, List.append_assoc, List.take_append, e1]
          rw [List.take_of_length_le (by omega), show o + k * i.size - o = k * i.size by omega, List.take_append_of_le_length (by omega)]
        have e6 : (pre ++ vs ++ post).drop (o + k * i.size + 0 + (vs.drop (l * i.size)).length) = (vs ++ post).drop ((k + (n - l)) * i.size) := by
          rw [Nat.add_zero, hlen, List.append_assoc, List.drop_append, e1]
          rw [List.drop_of_length_le (by omega), List.nil_append]
          congr 1
          rw [Nat.add_mul]; omega
        rw [e5, e6] at hi'
        simpa [List.append_assoc] using hi'
theorem x_make {x y : Operand} {t e sz by_ : Nat} {k1 k2 : IntKind} {i1 i2 : Int} {zs : List Value} (n c : Nat) (e1 : i1 = (n : Int)) (e2 : i2 = (c : Int)) (ht : sliceB C.P t = some (e, sz, by_)) (hz : zeroB C.P e = some zs) (hsz : Nat.ble 1 sz = true)
    (hx : evalE E x = some (.int k1 i1)) (hy : evalE E y = some (.int k2 i2)) (hnc : n ≤ c) (h63 : c ≤ 9223372036854775807) (hb : c * by_ ≤ 281474976710656) :
    OpX C (.makeSlice t x y) ty E L (fun v L' => ∃ b, v = .slice (some ⟨b, 0, none⟩) n c ∧ L' = Sl (some ⟨b, 0, none⟩) n c e sz ((List.replicate n zs).flatten) :: L) := by
  intro d pos aft g a w K Qx ha hi hK
  subst e1
  subst e2
  obtain ⟨ht1, i, hi2, rfl, rfl⟩ := slice_spec ht
  obtain ⟨i', z, hz1, hz2, hz3, hz4⟩ := zero_spec hz
  rw [hi2] at hz1
  cases hz1
  have hsz := Nat.le_of_ble_eq_true hsz
  have hc : ((c * i.bytes : Nat) : Int) = (i.bytes : Int) * (c : Int) := by rw [Int.natCast_mul, Int.mul_comm]
  have hr := run_make (P := C.P) w t e i z ht1 hi2 hz2 k1 k2 n c (by omega) (by omega) (by omega) (by omega)
  have hm : (madeCells z.cells (c * i.size)).toList = (List.replicate c zs).flatten := by
    have hzl : zs.length = i.size := hz4.symm
    apply List.ext_getElem?
    intro j
    by_cases hj : j < c * i.size
    · have h1 : ((List.replicate c zs).flatten)[j]? = zs[j % i.size]? := by
        have hgen : ∀ (c j : Nat), j < c * zs.length → ((List.replicate c zs).flatten)[j]? = zs[j % zs.length]? := by
          intro c
          induction c with
          | zero => intro j h; simp at h
          | succ c ih =>
            intro j h
            simp only [List.replicate_succ, List.flatten_cons]
            by_cases hj : j < zs.length
            · rw [List.getElem?_append_left hj, Nat.mod_eq_of_lt hj]
            · rw [List.getElem?_append_right (by omega), ih _ (by rw [Nat.succ_mul] at h; omega)]
              congr 1
              exact (Nat.mod_eq_sub_mod (by omega)).symm
        have := hgen c j (by rw [hzl]; exact hj)
        rwa [hzl] at this
      rw [h1]
      have hlt : j % i.size < i.size := Nat.mod_lt _ (by omega)
      simp [madeCells, hz3, hj]
      rw [hzl]
      simp [hlt, hzl]
    · rw [List.getElem?_eq_none, List.getElem?_eq_none]
      · simp [hzl]; omega
      · simp [madeCells]; omega
  have hrun : (execOp a.eval ⟨d, .makeSlice t x y, ty, pos, aft, g⟩).run C.P w = .ok (.value (.slice (some ⟨w.heap.size, 0, none⟩) n c)) (w.alloc (.cells ((List.replicate c zs).flatten).toArray e)) := by
    simp only [execOp, ha.eval hx, ha.eval hy, Sem.run_bind, hr, Result.andThen_ok, Sem.run_pure, Int.toNat_natCast]
    congr 2
    rw [← hm]
  unfold Oper.wp
  rw [hrun]
  refine hK _ _ _ ⟨_, rfl, rfl⟩ (Inv.imp (fun h hc => ?_) (hi.alloc e _))
  refine .inr ⟨_, 0, [], (List.replicate (c - n) zs).flatten, rfl, ?_, rfl, by simp [hz4], by simp [hz4], hnc⟩
  have : (List.replicate c zs).flatten = (List.replicate n zs).flatten ++ (List.replicate (c - n) zs).flatten := by
    rw [← List.flatten_append, List.replicate_append_replicate, show n + (c - n) = c by omega]
  simp only [List.nil_append]
  rw [← this]
  exact hc
theorem x_buildSlice {t e sz by_ len : Nat} {parts : List (Nat × Operand)} {pv : List (Nat × Value)} {zs vs : List Value} (ht : sliceB C.P t = some (e, sz, by_)) (hz : zeroB C.P e = some zs) (hsz : Nat.ble 1 sz = true) (hsm : Nat.ble (len * sz) 16777216 = true)
    (hp : ∀ a, Agr C E a → parts.map (fun p => (p.1, a.eval p.2)) = pv) (hf : Instr.fill (fun i => some (i * sz, sz)) ((List.replicate len zs).flatten.toArray) pv = some vs.toArray) (hl : vs.length = len * sz) :
    OpX C (.buildSlice t len parts.toArray) ty E L (fun v L' => ∃ b, v = .slice (some ⟨b, 0, none⟩) len len ∧ L' = Sl (some ⟨b, 0, none⟩) len len e sz vs :: L) := by
  intro d pos aft g a w K Qx ha hi hK
  obtain ⟨ht1, i, hi2, rfl, rfl⟩ := slice_spec ht
  obtain ⟨i', z, hz1, hz2, hz3, hz4⟩ := zero_spec hz
  rw [hi2] at hz1
  cases hz1
  have hsz := Nat.le_of_ble_eq_true hsz
  have hsm := Nat.le_of_ble_eq_true hsm
  have hzl : zs.length = i.size := hz4.symm
  have hgen : ∀ (c j : Nat), j < c * zs.length → ((List.replicate c zs).flatten)[j]? = zs[j % zs.length]? := by
    intro c
    induction c with
    | zero => intro j h; simp at h
    | succ c ih =>
      intro j h
      simp only [List.replicate_succ, List.flatten_cons]
      by_cases hj : j < zs.length
      · rw [List.getElem?_append_left hj, Nat.mod_eq_of_lt hj]
      · rw [List.getElem?_append_right (by omega), ih _ (by rw [Nat.succ_mul] at h; omega)]
        congr 1
        exact (Nat.mod_eq_sub_mod (by omega)).symm
  have hzero : ∀ zz : Array Value, (len * i.size = 0 → zz = #[]) → (len * i.size ≠ 0 → zz = zs.toArray) → (Array.range (len * i.size)).map (zz[· % zz.size]!) = (List.replicate len zs).flatten.toArray := by
    intro zz h0 h1
    apply Array.ext'
    simp only [Array.toList_map, Array.toList_range]
    apply List.ext_getElem?
    intro j
    by_cases hj : j < len * i.size
    · rw [h1 (by omega)]
      have hlt : j % i.size < i.size := Nat.mod_lt _ (by omega)
      rw [hgen len j (by rw [hzl]; exact hj), hzl]
      simp [hj, hzl, hlt]
    · rw [List.getElem?_eq_none, List.getElem?_eq_none]
      · simp [hzl]; omega
      · simp; omega
  have hmap : parts.toArray.map (fun x => match x with | (i, x) => (i, a.eval x)) = pv.toArray := by
    rw [← hp a ha]
    simp
  have hrun : (execOp a.eval ⟨d, .buildSlice t len parts.toArray, ty, pos, aft, g⟩).run C.P w = .ok (.value (.slice (some ⟨w.heap.size, 0, none⟩) len len)) (w.alloc (.cells vs.toArray e)) := by
    have h16 : ¬ (len * i.size > 2 ^ 24) := by omega
    simp only [execOp, hmap, Instr.buildSlice, Sem.run_bind, run_underlying ht1, Result.andThen_ok, run_sizeOf hi2, if_neg h16]
    by_cases h0 : len * i.size = 0
    · have e := hzero #[] (fun _ => rfl) (fun h => absurd h0 h)
      simp only [if_pos h0, Sem.run_bind, Sem.run_pure, Result.andThen_ok, e, hf]
      simp [newRow]
    · have e := hzero zs.toArray (fun h => absurd h h0) (fun _ => rfl)
      simp only [if_neg h0, Sem.run_bind, Sem.run_pure, Result.andThen_ok, zeroValue, typeInfo, run_program, hi2, hz2, hz3, e, hf]
      simp [newRow]
  unfold Oper.wp
  rw [hrun]
  exact hK _ _ _ ⟨_, rfl, rfl⟩ (Inv.imp (fun h hc => Cel.sl hc hl) (hi.alloc e vs))
def pevs (E : Env) : List (Nat × Operand) → Option (List (Nat × Value))
  | [] => some []
  | (i, x) :: xs => match evalE E x with | some v => (match pevs E xs with | some vs => some ((i, v) :: vs) | none => none) | none => none
theorem pevs_spec : ∀ {ps : List (Nat × Operand)} {pv : List (Nat × Value)}, pevs E ps = some pv → ∀ a, Agr C E a → ps.map (fun p => (p.1, a.eval p.2)) = pv
  | [], pv, h, a, ha => by simp only [pevs] at h; cases h; rfl
  | (i, x) :: ps, pv, h, a, ha => by
    simp only [pevs] at h
    split at h <;> try simp at h
    rename_i v hv
    split at h <;> try simp at h
    rename_i vs hvs
    subst h
    simp [ha.eval hv, pevs_spec hvs a ha]
def placesB (P : Program) (t : TypeId) : Option (List (Nat × Nat)) := match P.underlying t with
  | some (.struct fs) => fs.toList.mapM fun f => match P.info? f.type with | some i => some (f.offset, i.size) | none => none
  | _ => none
theorem v_build {t : TypeId} {parts : List (Nat × Operand)} {pv : List (Nat × Value)} {zs cs : List Value} {pl : List (Nat × Nat)} (hpl : placesB C.P t = some pl) (hz : zeroB C.P t = some zs) (hp : pevs E parts = some pv) (hf : Instr.fill (pl.toArray[·]?) zs.toArray pv = some cs.toArray) :
    OpV C (.build t parts.toArray) ty E L (.agg cs.toArray) L :=
  pureV fun d pos aft g a w ha => by
    obtain ⟨i', z, hz1, hz2, hz3, hz4⟩ := zero_spec hz
    have hmap : parts.toArray.map (fun x => match x with | (i, x) => (i, a.eval x)) = pv.toArray := by
      rw [← pevs_spec hp a ha]; simp
    unfold placesB at hpl
    split at hpl
    · rename_i fs hfs
      have hplaces : ((fs.mapM fun f => do pure (f.offset, ← sizeOf f.type)) : Sem (Array (Nat × Nat))).run C.P w = .ok pl.toArray w := by
        have hgen : ∀ (l : List Field) (pl : List (Nat × Nat)), l.mapM (fun f => match C.P.info? f.type with | some i => some (f.offset, i.size) | none => none) = some pl →
            ((l.mapM fun f => do pure (f.offset, ← sizeOf f.type)) : Sem (List (Nat × Nat))).run C.P w = .ok pl w := by
          intro l
          induction l with
          | nil => intro pl h; simp at h; subst h; simp
          | cons f l ih =>
            intro pl h
            simp only [List.mapM_cons] at h ⊢
            cases hi : C.P.info? f.type with
            | none => simp [hi] at h
            | some i =>
              simp only [hi] at h
              cases hl : l.mapM (fun f => match C.P.info? f.type with | some i => some (f.offset, i.size) | none => none) with
              | none => simp [hl] at h
              | some pl' =>
                simp [hl] at h
                subst h
                have := ih pl' hl
                simp only [Sem.run_bind, run_sizeOf hi, Result.andThen_ok, Sem.run_pure, this]
        rw [Array.mapM_eq_mapM_toList]
        have := hgen fs.toList pl hpl
        simp only [Sem.run_map, this, Result.andThen_ok]
      simp only [execOp, hmap, Instr.build, Sem.run_bind, zeroValue, typeInfo, run_program, Result.andThen_ok, hz1, hz2, Sem.run_pure, run_underlying hfs, hplaces, hz3]
      simp only [List.getElem?_toArray] at hf ⊢
      simp [hf]
    · cases hpl
end
end Go.Sl
namespace Go.Sl
open Go.RowKit (Below)
def upd (y : Nat → Value) (i : Nat) (v : Value) : Nat → Value := fun j => if j = i then v else y j
theorem upd_same (y : Nat → Value) (i : Nat) (v : Value) : upd y i v i = v := by simp [upd]
theorem upd_ne {y : Nat → Value} {i j : Nat} {v : Value} (h : j ≠ i) : upd y i v j = y j := by simp [upd, h]
def QX (C : Ctx) := { Q : Exit → Act → World → Prop // ∀ ch E L a w, Agr C E a → Inv C.w0 L w → C.X ch L → Q (.panic ch) a w }
def Step (C : Ctx) (ops : Array Oper) (o : Oper) (E : Env) (L : List HProp) (R : Value → List HProp → Prop) : Prop :=
  ∀ a w (K : Act → World → Prop) (Q : QX C), Agr C E a → Inv C.w0 L w → (∀ v L' w', R v L' → Inv C.w0 L' w' → K (a.put o.dst v) w') →
    (if Region.wanted o (yielded ops a.tmps) then o.wp C.P a w K Q.1 else K (a.put o.dst undef) w)
section
variable {C : Ctx} {ops : Array Oper} {E : Env} {L L' : List HProp} {R : Value → List HProp → Prop} {d : Option Nat} {ty : TypeId} {pos : String} {aft : Array Edge} {op : Op} {v : Value}
theorem st_x (h : OpX C op ty E L R) : Step C ops ⟨d, op, ty, pos, aft, none⟩ E L R := fun a w K Q ha hi hK => by
  rw [if_pos (by simp [Region.wanted])]
  exact h d pos aft none a w K Q.1 ha hi hK
theorem st_v (h : OpV C op ty E L v L') (hR : R v L') : Step C ops ⟨d, op, ty, pos, aft, none⟩ E L R :=
  st_x (fun d pos aft g a w K Q ha hi hK => h.x d pos aft g a w K Q ha hi (fun v' M w' ⟨e1, e2⟩ hi' => hK v' M w' (by subst e1; subst e2; exact hR) hi'))
end
def bindOn (o : Oper) : List Nat := o.after.toList.filterMap fun e => if Region.binds .any e then some e.on else none
structure Par where
  anc : List Nat
  deps : List Nat
  slots : List Nat
  lo : Nat
  hi : Nat
def mem (x : Nat) : List Nat → Bool
  | [] => false
  | y :: l => Nat.beq x y || mem x l
theorem mem_iff {x : Nat} : ∀ {l : List Nat}, mem x l = true ↔ x ∈ l
  | [] => by simp [mem]
  | y :: l => by
    simp only [mem, Bool.or_eq_true, List.mem_cons, mem_iff (l := l)]
    constructor
    · rintro (h | h)
      · exact .inl (Nat.eq_of_beq_eq_true h)
      · exact .inr h
    · rintro (h | h)
      · exact .inl (by subst h; simp)
      · exact .inr h
def ancOf (ps : List Par) (i : Nat) : List Nat := match ps[i]? with | some p => p.anc | none => []
def dstIn (l : List Oper) (i : Nat) : Option Nat := match l[i]? with | some o => o.dst | none => none
def noSelect : Op → Bool
  | .select _ _ => false
  | _ => true
def chainB (ps : List Par) : List Nat → Bool
  | [] => true
  | c :: r => r.all (fun q => mem c (ancOf ps q)) && chainB ps r
def parB (C : Ctx) (l : List Oper) (ps : List Par) (ch : List Nat) (i : Nat) : Bool :=
  match l[i]?, ps[i]? with
  | some o, some p =>
    noSelect o.op &&
    (bindOn o).all (fun j => Nat.blt j i) &&
    p.anc.all (fun j => Nat.blt j i && (mem j (bindOn o) || (bindOn o).any (fun k => mem j (ancOf ps k)))) &&
    p.deps.all (fun j => mem j p.anc) &&
    p.slots.all (fun s => (List.range l.length).all fun j => match dstIn l j with | some t => !(Nat.beq t s) || Nat.beq j i || mem i (ancOf ps j) | none => true) &&
    (ch.take p.lo).all (fun c => mem c p.anc) && Nat.ble p.lo ch.length &&
    (match ch[p.hi]? with | some c => Nat.beq c i || mem i (ancOf ps c) | none => true) &&
    (match o.dst with
      | some t => Nat.blt t C.n && (List.range l.length).all (fun j => Nat.beq j i || (match dstIn l j with | some u => !(Nat.beq u t) | none => true))
      | none => true) &&
    (match o.guard with | some (j, _) => mem j p.deps | none => true)
  | _, _ => false
def regB (C : Ctx) (l : List Oper) (ps : List Par) (ch : List Nat) : Bool :=
  (List.range l.length).all (parB C l ps ch) && chainB ps ch && ch.all (fun c => Nat.blt c l.length) &&
  (List.range ch.length).all (fun p => match ch[p]? with | some c => (match ps[c]? with | some q => Nat.beq q.lo p && Nat.beq q.hi p | none => false) | none => false)
def envOf (l : List Oper) (E0 : Env) (p : Par) (y : Nat → Value) : Env :=
  (p.deps.filterMap fun j => match dstIn l j with | some t => some (t, y j) | none => none) ++ p.slots.filterMap fun s => match E0.get s with | some v => some (s, v) | none => none
def finE (l : List Oper) (y : Nat → Value) : Nat → Env → Env
  | 0, E => E
  | i + 1, E => match dstIn l i with | some t => (t, y i) :: finE l y i E | none => finE l y i E
def Obl (C : Ctx) (l : List Oper) (E0 : Env) (ps : List Par) (ch : List Nat) (Φ : Nat → (Nat → Value) → Prop) (Lk : Nat → (Nat → Value) → List HProp) (At : Nat → (Nat → Value) → List HProp) (AP : List HProp → Prop) (i : Nat) : Prop :=
  ∀ o p, l[i]? = some o → ps[i]? = some p → ∀ y k A, AP A → k ≤ ch.length → p.lo ≤ k → k ≤ p.hi → (∀ j ∈ p.anc, Φ j y) → (∀ j ∈ p.anc, ∀ B ∈ At j y, B ∈ A) →
    Step C l.toArray o (envOf l E0 p y) (Lk k y ++ A) (fun v L' => ∃ A', AP A' ∧ Φ i (upd y i v) ∧ L'.Perm (Lk (if mem i ch then k + 1 else k) (upd y i v) ++ A') ∧ (∀ B ∈ A, B ∈ A') ∧ (∀ B ∈ At i (upd y i v), B ∈ A'))
theorem getD_replicate_false' (m j : Nat) : (Array.replicate m false).getD j false = false := by
  rcases Nat.lt_or_ge j m with h | h
  · simp [h]
  · simp [h]
theorem getD_both {listed : Array Bool} {i : Nat} (h : listed.getD i true = false) : listed.getD i false = false := by
  rcases Nat.lt_or_ge i listed.size with h' | h'
  · simp [h'] at h ⊢; exact h
  · simp [Array.getElem?_eq_none h'] at h
theorem Env.get_mem {d : Nat} {v : Value} : ∀ {E : Env}, E.get d = some v → (d, v) ∈ E
  | [], h => by cases h
  | (k, u) :: E, h => by
    rw [Env.get_cons] at h
    by_cases e : k = d
    · subst e; simp at h; simp [h]
    · simp only [e, if_false] at h; exact List.mem_cons_of_mem _ (Env.get_mem h)
section
variable {C : Ctx} {l : List Oper} {E0 : Env} {ps : List Par} {ch : List Nat} {Φ : Nat → (Nat → Value) → Prop} {Lk At : Nat → (Nat → Value) → List HProp} {AP : List HProp → Prop}
def done (listed : Array Bool) (j : Nat) : Prop := listed.getD j false = true
structure RInv (C : Ctx) (l : List Oper) (E0 : Env) (ps : List Par) (ch : List Nat) (Φ : Nat → (Nat → Value) → Prop) (Lk At : Nat → (Nat → Value) → List HProp) (AP : List HProp → Prop)
    (listed : Array Bool) (a : Act) (w : World) (y : Nat → Value) (A : List HProp) (k : Nat) : Prop where
  size : listed.size = l.length
  clA : ∀ i, done listed i → ∀ j ∈ ancOf ps i, done listed j
  defers : a.defers = C.D
  asize : a.tmps.size = C.n
  vals : ∀ i, done listed i → ∀ t, dstIn l i = some t → a.tmps[t]? = some (y i)
  olds : ∀ s v, E0.get s = some v → (∀ j, done listed j → dstIn l j ≠ some s) → a.tmps[s]? = some v
  phi : ∀ i, done listed i → Φ i y
  ats : ∀ i, done listed i → ∀ B ∈ At i y, B ∈ A
  kle : k ≤ ch.length
  ap : AP A
  kdone : ∀ q c, q < k → ch[q]? = some c → done listed c
  kun : ∀ q c, k ≤ q → ch[q]? = some c → ¬ done listed c
  inv : Inv C.w0 (Lk k y ++ A) w
structure ParOk (C : Ctx) (l : List Oper) (ps : List Par) (ch : List Nat) (i : Nat) (o : Oper) (p : Par) : Prop where
  sel : ∀ cs b, o.op ≠ .select cs b
  edges : ∀ j ∈ bindOn o, j < i
  anc : ∀ j ∈ p.anc, j < i ∧ (j ∈ bindOn o ∨ ∃ k ∈ bindOn o, j ∈ ancOf ps k)
  deps : ∀ j ∈ p.deps, j ∈ p.anc
  slots : ∀ s ∈ p.slots, ∀ j, dstIn l j = some s → j = i ∨ i ∈ ancOf ps j
  lo : ∀ c ∈ ch.take p.lo, c ∈ p.anc
  lole : p.lo ≤ ch.length
  hi : ∀ c, ch[p.hi]? = some c → c = i ∨ i ∈ ancOf ps c
  dst : ∀ t, o.dst = some t → t < C.n ∧ ∀ j, j ≠ i → dstIn l j ≠ some t
  guard : ∀ j w, o.guard = some (j, w) → j ∈ p.deps
theorem dstIn_lt {i t : Nat} (h : dstIn l i = some t) : i < l.length := by
  unfold dstIn at h
  split at h
  · rename_i o ho; exact (List.getElem?_eq_some_iff.1 ho).1
  · cases h
theorem parB_spec {i : Nat} (h : parB C l ps ch i = true) : ∃ o p, l[i]? = some o ∧ ps[i]? = some p ∧ ParOk C l ps ch i o p := by
  unfold parB at h
  split at h
  · rename_i o p ho hp
    simp only [Bool.and_eq_true] at h
    obtain ⟨⟨⟨⟨⟨⟨⟨⟨⟨h1, h2⟩, h3⟩, h4⟩, h5⟩, h6⟩, h7⟩, h8⟩, h9⟩, h10⟩ := h
    refine ⟨o, p, ho, hp, ?_, ?_, ?_, ?_, ?_, ?_, Nat.le_of_ble_eq_true h7, ?_, ?_, ?_⟩
    · intro cs b e; rw [e] at h1; cases h1
    · intro j hj; exact blt_lt (List.all_eq_true.1 h2 j hj)
    · intro j hj
      have := List.all_eq_true.1 h3 j hj
      simp only [Bool.and_eq_true, Bool.or_eq_true] at this
      refine ⟨blt_lt this.1, ?_⟩
      rcases this.2 with h | h
      · exact .inl (mem_iff.1 h)
      · obtain ⟨k, hk, hk2⟩ := List.any_eq_true.1 h
        exact .inr ⟨k, hk, mem_iff.1 hk2⟩
    · intro j hj; exact mem_iff.1 (List.all_eq_true.1 h4 j hj)
    · intro s hs j hj
      have := List.all_eq_true.1 (List.all_eq_true.1 h5 s hs) j (List.mem_range.2 (dstIn_lt hj))
      simp only [hj, Bool.or_eq_true] at this
      rcases this with (h | h) | h
      · simp at h
      · exact .inl (Nat.eq_of_beq_eq_true h)
      · exact .inr (mem_iff.1 h)
    · intro c hc; exact mem_iff.1 (List.all_eq_true.1 h6 c hc)
    · intro c hc
      rw [hc] at h8
      simp only [Bool.or_eq_true] at h8
      rcases h8 with h | h
      · exact .inl (Nat.eq_of_beq_eq_true h)
      · exact .inr (mem_iff.1 h)
    · intro t ht
      rw [ht] at h9
      simp only [Bool.and_eq_true] at h9
      refine ⟨blt_lt h9.1, fun j hj e => ?_⟩
      have := List.all_eq_true.1 h9.2 j (List.mem_range.2 (dstIn_lt e))
      simp only [e, Bool.or_eq_true] at this
      rcases this with h | h
      · exact hj (Nat.eq_of_beq_eq_true h)
      · simp at h
    · intro j w hg
      rw [hg] at h10
      exact mem_iff.1 h10
  · cases h
theorem bind_listed {i : Nat} {o : Oper} {listed : Array Bool} (ho : l[i]? = some o) (hr : i ∈ Region.ready .any l.toArray listed) : listed.getD i true = false ∧ ∀ j ∈ bindOn o, done listed j := by
  obtain ⟨h1, o', ho', hall⟩ := mem_ready.1 hr
  have : o' = o := by
    have h2 : l[i]? = some o' := by simpa using ho'
    rw [h2] at ho; exact Option.some.inj ho
  subst this
  refine ⟨h1, fun j hj => ?_⟩
  obtain ⟨e, he, hb⟩ := List.mem_filterMap.1 hj
  split at hb
  · rename_i hbind
    cases hb
    exact hall e (by simpa using he) hbind
  · cases hb
theorem wpAny_par (hok : ∀ i, i < l.length → ∃ o p, l[i]? = some o ∧ ps[i]? = some p ∧ ParOk C l ps ch i o p) (hch : chainB ps ch = true) (hchl : ∀ c ∈ ch, c < l.length)
    (hlink : ∀ q c (p : Par), ch[q]? = some c → ps[c]? = some p → p.lo = q ∧ p.hi = q)
    (hobl : ∀ i, i < l.length → Obl C l E0 ps ch Φ Lk At AP i) (hloc : ∀ i y y', (∀ j, j = i ∨ j ∈ ancOf ps i → y j = y' j) → Φ i y → Φ i y') (hlocA : ∀ i y y', (∀ j, j = i ∨ j ∈ ancOf ps i → y j = y' j) → At i y = At i y')
    {Q : Exit → Act → World → Prop} (hX : ∀ ch E L a w, Agr C E a → Inv C.w0 L w → C.X ch L → Q (.panic ch) a w) (hQ : ∀ a w y A, AP A → (∀ i, i < l.length → Φ i y) → (∀ i, i < l.length → ∀ B ∈ At i y, B ∈ A) → a.defers = C.D → a.tmps.size = C.n → (∀ i, i < l.length → ∀ t, dstIn l i = some t → a.tmps[t]? = some (y i)) →
      (∀ s v, E0.get s = some v → (∀ j, dstIn l j ≠ some s) → a.tmps[s]? = some v) → Inv C.w0 (Lk ch.length y ++ A) w → Q .normal a w) :
    ∀ (fuel : Nat) (listed : Array Bool) (a : Act) (w : World) (y : Nat → Value) (A : List HProp) (k : Nat), RInv C l E0 ps ch Φ Lk At AP listed a w y A k →
      ((List.range l.length).filter fun i => !listed.getD i true).length ≤ fuel → wpAny C.P .any l.toArray Q fuel listed a w := by
  have fin : ∀ (listed : Array Bool) (a : Act) (w : World) (y : Nat → Value) (A : List HProp) (k : Nat), RInv C l E0 ps ch Φ Lk At AP listed a w y A k → Region.ready .any l.toArray listed = [] → Q .normal a w := by
    intro listed a w y A k hinv hr
    have hall : ∀ i, i < l.length → done listed i := by
      intro i
      induction i using Nat.strongRecOn with
      | _ i ih =>
        intro hi
        obtain ⟨o, p, ho, hp, ok⟩ := hok i hi
        have hlt : i < listed.size := by rw [hinv.size]; exact hi
        cases hd : listed.getD i true with
        | true => unfold done; simp [hlt] at hd ⊢; exact hd
        | false =>
          exfalso
          have : i ∈ Region.ready .any l.toArray listed := mem_ready.2 ⟨hd, o, by simpa using ho, fun e he hb => ?_⟩
          · rw [hr] at this; cases this
          · have hj : e.on ∈ bindOn o := List.mem_filterMap.2 ⟨e, by simpa using he, by simp [hb]⟩
            have hlt2 := ok.edges _ hj
            exact ih e.on hlt2 (by omega)
    have hk : k = ch.length := by
      rcases Nat.lt_or_ge k ch.length with h | h
      · exfalso
        have hc : ch[k]? = some ch[k] := List.getElem?_eq_getElem h
        exact hinv.kun k _ (Nat.le_refl _) hc (hall _ (hchl _ (List.getElem_mem h)))
      · exact Nat.le_antisymm hinv.kle h
    subst hk
    refine hQ a w y A hinv.ap (fun i hi => hinv.phi i (hall i hi)) (fun i hi => hinv.ats i (hall i hi)) hinv.defers hinv.asize (fun i hi => hinv.vals i (hall i hi)) (fun s v hs hne => hinv.olds s v hs (fun j _ => hne j)) hinv.inv
  intro fuel
  induction fuel with
  | zero =>
    intro listed a w y A k hinv hn
    have hr : Region.ready .any l.toArray listed = [] := by
      apply List.eq_nil_iff_forall_not_mem.2
      intro i hi
      obtain ⟨h1, o, ho, _⟩ := mem_ready.1 hi
      have hlt : i < l.length := by
        have : l[i]? = some o := by simpa using ho
        exact (List.getElem?_eq_some_iff.1 this).1
      have : i ∈ ((List.range l.length).filter fun i => !listed.getD i true) := List.mem_filter.2 ⟨List.mem_range.2 hlt, by simp only [h1]; rfl⟩
      have h0 := List.eq_nil_of_length_eq_zero (Nat.le_zero.1 hn)
      rw [h0] at this
      cases this
    exact ⟨hr, fin listed a w y A k hinv hr⟩
  | succ fuel ih =>
    intro listed a w y A k hinv hn
    refine ⟨fin listed a w y A k hinv, fun i hi => ?_⟩
    have hlt : i < l.length := by
      obtain ⟨h1, o, ho, _⟩ := mem_ready.1 hi
      have : l[i]? = some o := by simpa using ho
      exact (List.getElem?_eq_some_iff.1 this).1
    obtain ⟨o, p, ho, hp, ok⟩ := hok i hlt
    obtain ⟨hun, hb⟩ := bind_listed ho hi
    have hnd : ¬ done listed i := fun h => by unfold done at h; rw [getD_both hun] at h; cases h
    have hpa : ancOf ps i = p.anc := by simp [ancOf, hp]
    have hanc : ∀ j ∈ p.anc, done listed j := by
      intro j hj
      rcases (ok.anc j hj).2 with h | ⟨k, hk, h⟩
      · exact hb j h
      · exact hinv.clA k (hb k hk) j h
    have hself : ∀ j, done listed j → j ≠ i := fun j hj e => hnd (e ▸ hj)
    have hlo : p.lo ≤ k := by
      rcases Nat.lt_or_ge k p.lo with h | h
      · exfalso
        have hkl : k < ch.length := Nat.lt_of_lt_of_le h ok.lole
        have hc : ch[k]? = some ch[k] := List.getElem?_eq_getElem hkl
        refine hinv.kun k _ (Nat.le_refl _) hc (hanc _ (ok.lo _ ?_))
        exact List.mem_of_getElem? (i := k) (by rw [List.getElem?_take]; simp [h, hc])
      · exact h
    have hhi : k ≤ p.hi := by
      rcases Nat.lt_or_ge p.hi k with h | h
      · exfalso
        have hkl : p.hi < ch.length := Nat.lt_of_lt_of_le h hinv.kle
        have hc : ch[p.hi]? = some ch[p.hi] := List.getElem?_eq_getElem hkl
        have hcd := hinv.kdone p.hi _ h hc
        rcases ok.hi _ hc with e | e
        · exact hnd (e ▸ hcd)
        · exact hnd (hinv.clA _ hcd _ e)
      · exact h
    have hagr : Agr C (envOf l E0 p y) a := by
      refine ⟨hinv.defers, hinv.asize, fun d v hd => ?_⟩
      have hm := Env.get_mem hd
      unfold envOf at hm
      rcases List.mem_append.1 hm with h | h
      · obtain ⟨j, hj, hj2⟩ := List.mem_filterMap.1 h
        split at hj2
        · rename_i t ht
          cases hj2
          exact hinv.vals j (hanc j (ok.deps j hj)) d ht
        · cases hj2
      · obtain ⟨s, hs, hs2⟩ := List.mem_filterMap.1 h
        split at hs2
        · rename_i u hu
          cases hs2
          refine hinv.olds d v hu (fun j hj e => ?_)
          rcases ok.slots d hs j e with h | h
          · exact hself j hj h
          · exact hnd (hinv.clA j hj i h)
        · cases hs2
    have hstep := hobl i hlt o p ho hp y k A hinv.ap hinv.kle hlo hhi (fun j hj => hinv.phi j (hanc j hj)) (fun j hj => hinv.ats j (hanc j hj))
    have hdst : dstIn l i = o.dst := by simp [dstIn, ho]
    have hilt : i < listed.size := by rw [hinv.size]; exact hlt
    have hdone' : ∀ j, done (listed.setIfInBounds i true) j ↔ j = i ∨ done listed j := by
      intro j
      unfold done
      by_cases hij : i = j
      · subst hij; simp [hilt]
      · rw [getD_set_ne false hij]
        constructor
        · exact fun h => .inr h
        · rintro (h | h)
          · exact absurd h.symm hij
          · exact h
    have hcnt : ((List.range l.length).filter fun j => !(listed.setIfInBounds i true).getD j true).length ≤ fuel := by
      have hsub : ((List.range l.length).filter fun j => !(listed.setIfInBounds i true).getD j true) = ((List.range l.length).filter fun j => !listed.getD j true).filter (fun j => !(j == i)) := by
        rw [List.filter_filter]
        apply List.filter_congr
        intro j _
        by_cases hij : i = j
        · subst hij; simp [hilt]
        · rw [getD_set_ne true hij]
          have : (j == i) = false := by simp; exact fun h => hij h.symm
          simp [this]
      have hmem : i ∈ ((List.range l.length).filter fun j => !listed.getD j true) := List.mem_filter.2 ⟨List.mem_range.2 hlt, by simp only [hun]; rfl⟩
      rw [hsub]
      have hlt2 : (((List.range l.length).filter fun j => !listed.getD j true).filter (fun j => !(j == i))).length < ((List.range l.length).filter fun j => !listed.getD j true).length :=
        List.length_filter_lt_length_iff_exists.2 ⟨i, hmem, by simp⟩
      omega
    have hK : ∀ v L' w', (∃ A', AP A' ∧ Φ i (upd y i v) ∧ L'.Perm (Lk (if mem i ch then k + 1 else k) (upd y i v) ++ A') ∧ (∀ B ∈ A, B ∈ A') ∧ (∀ B ∈ At i (upd y i v), B ∈ A')) → Inv C.w0 L' w' →
        wpAny C.P .any l.toArray Q fuel (listed.setIfInBounds i true) (a.put o.dst v) w' := by
      rintro v L' w' ⟨A', h0, h1, h2, h3, h4⟩ hi'
      have hsame : ∀ j, done listed j → ∀ q, q = j ∨ q ∈ ancOf ps j → y q = upd y i v q := by
        intro j hj q hq
        rw [upd_ne]
        rcases hq with rfl | hq
        · exact hself _ hj
        · exact hself _ (hinv.clA j hj q hq)
      refine ih _ _ _ (upd y i v) A' (if mem i ch then k + 1 else k) ⟨by simp [hinv.size], ?_, ?_, ?_, ?_, ?_, ?_, ?_, ?_, h0, ?_, ?_, hi'.perm h2⟩ hcnt
      · intro j hj q hq
        rcases (hdone' j).1 hj with rfl | hj
        · exact (hdone' q).2 (.inr (hanc q (by rw [← hpa]; exact hq)))
        · exact (hdone' q).2 (.inr (hinv.clA j hj q hq))
      · cases o.dst <;> exact hinv.defers
      · cases o.dst <;> simp [Act.put, hinv.asize]
      · intro j hj t ht
        rcases (hdone' j).1 hj with rfl | hj
        · rw [hdst] at ht
          rw [ht, upd_same]
          have := (ok.dst t ht).1
          simp [Act.put, hinv.asize, this]
        · rw [upd_ne (hself j hj)]
          have hv := hinv.vals j hj t ht
          cases hod : o.dst with
          | none => exact hv
          | some u =>
            have hne : u ≠ t := fun e => (ok.dst u hod).2 j (hself j hj) (e ▸ ht)
            simp only [Act.put]
            rw [Array.getElem?_setIfInBounds_ne hne]
            exact hv
      · intro s v' hs hne
        have hv := hinv.olds s v' hs (fun j hj => hne j ((hdone' j).2 (.inr hj)))
        cases hod : o.dst with
        | none => exact hv
        | some u =>
          have hne2 : u ≠ s := fun e => hne i ((hdone' i).2 (.inl rfl)) (by rw [hdst, hod, e])
          simp only [Act.put]
          rw [Array.getElem?_setIfInBounds_ne hne2]
          exact hv
      · intro j hj
        rcases (hdone' j).1 hj with rfl | hj
        · exact h1
        · exact hloc j y _ (hsame j hj) (hinv.phi j hj)
      · intro j hj B hB
        rcases (hdone' j).1 hj with rfl | hj
        · exact h4 B hB
        · rw [← hlocA j y _ (hsame j hj)] at hB
          exact h3 B (hinv.ats j hj B hB)
      · have := hinv.kle
        by_cases hm : mem i ch = true
        · rw [if_pos hm]
          obtain ⟨q, hq⟩ := List.getElem?_of_mem (mem_iff.1 hm)
          have := (List.getElem?_eq_some_iff.1 hq).1
          obtain ⟨e1, e2⟩ := hlink q i p hq hp
          omega
        · rw [if_neg hm]; exact this
      · intro q c hq hc
        by_cases hm : mem i ch = true
        · rw [if_pos hm] at hq
          obtain ⟨q', hq'⟩ := List.getElem?_of_mem (mem_iff.1 hm)
          obtain ⟨e1, e2⟩ := hlink q' i p hq' hp
          by_cases e : q = k
          · have : q = q' := by omega
            subst this
            rw [hq'] at hc
            cases hc
            exact (hdone' i).2 (.inl rfl)
          · exact (hdone' c).2 (.inr (hinv.kdone q c (by omega) hc))
        · rw [if_neg hm] at hq
          exact (hdone' c).2 (.inr (hinv.kdone q c hq hc))
      · intro q c hq hc hdc
        rcases (hdone' c).1 hdc with e | hdc'
        · subst e
          have hm : mem c ch = true := mem_iff.2 (List.mem_of_getElem? hc)
          rw [if_pos hm] at hq
          obtain ⟨e1, e2⟩ := hlink q c p hc hp
          omega
        · refine hinv.kun q c ?_ hc hdc'
          split at hq <;> omega
    have h5 := hstep a w (wpAny C.P .any l.toArray Q fuel (listed.setIfInBounds i true)) ⟨Q, hX⟩ hagr hinv.inv hK
    unfold wpOp
    have ho' : l.toArray[i]? = some o := by simpa using ho
    simp only [ho']
    by_cases hw : Region.wanted o (yielded l.toArray a.tmps) = true
    · rw [if_pos hw] at h5 ⊢; exact .inl h5
    · rw [if_neg hw] at h5 ⊢; exact h5
theorem w_par {Q : QT} {id : Nat} (ps : List Par) (ch : List Nat) (Φ : Nat → (Nat → Value) → Prop) (Lk At : Nat → (Nat → Value) → List HProp) (AP : List HProp → Prop) {A0 : List HProp} {L : List HProp} {y0 : Nat → Value}
    (hm : C.P.follows .mixedOrders = true) (hB : regB C l ps ch = true) (h0 : L.Perm (Lk 0 y0 ++ A0)) (hap : AP A0)
    (hloc : ∀ i y y', (∀ j, j = i ∨ j ∈ ancOf ps i → y j = y' j) → Φ i y → Φ i y') (hlocA : ∀ i y y', (∀ j, j = i ∨ j ∈ ancOf ps i → y j = y' j) → At i y = At i y')
    (hobl : ∀ i, i < l.length → Obl C l E0 ps ch Φ Lk At AP i)
    (k : ∀ y A, AP A → (∀ i, i < l.length → Φ i y) → (∀ i, i < l.length → ∀ B ∈ At i y, B ∈ A) → Q .normal (finE l y l.length E0) (Lk ch.length y ++ A)) (hX : ∀ ch E L, C.X ch L → Q (.panic ch) E L := by exact fun _ _ _ h => h) : Wp C (.region id l.toArray true) Q E0 L := by
  intro a w ha hi
  unfold regB at hB
  simp only [Bool.and_eq_true] at hB
  obtain ⟨⟨⟨h1, h2⟩, h3⟩, h4⟩ := hB
  have hok : ∀ i, i < l.length → ∃ o p, l[i]? = some o ∧ ps[i]? = some p ∧ ParOk C l ps ch i o p := fun i hi => parB_spec (List.all_eq_true.1 h1 i (List.mem_range.2 hi))
  have hchl : ∀ c ∈ ch, c < l.length := fun c hc => blt_lt (List.all_eq_true.1 h3 c hc)
  have hlink : ∀ q c (p : Par), ch[q]? = some c → ps[c]? = some p → p.lo = q ∧ p.hi = q := by
    intro q c p hq hp
    have := List.all_eq_true.1 h4 q (List.mem_range.2 (List.getElem?_eq_some_iff.1 hq).1)
    simp only [hq, hp, Bool.and_eq_true] at this
    exact ⟨Nat.eq_of_beq_eq_true this.1, Nat.eq_of_beq_eq_true this.2⟩
  refine wp_region_any hm ?_
  have hs : l.toArray.size = l.length := by simp
  rw [hs]
  refine wpAny_par (E0 := E0) (Φ := Φ) (Lk := Lk) (At := At) (AP := AP) hok h2 hchl hlink hobl hloc hlocA (fun ch E L a w h1 h2 h3 => ⟨E, L, h1, h2, hX ch E L h3⟩) ?_ l.length (Array.replicate l.length false) a _ y0 A0 0 ?_ ?_
  · intro a w y A p0 p1 p2 p3 p4 p5 p6 p7
    refine ⟨_, _, ⟨p3, p4, ?_⟩, p7, k y A p0 p1 p2⟩
    have key : ∀ (n : Nat), n ≤ l.length → ∀ d v, (finE l y n E0).get d = some v → (∃ i, i < n ∧ dstIn l i = some d ∧ v = y i) ∨ (E0.get d = some v ∧ ∀ i, i < n → dstIn l i ≠ some d) := by
      intro n
      induction n with
      | zero => intro _ d v h; exact .inr ⟨h, fun i hi => absurd hi (by omega)⟩
      | succ n ih =>
        intro hn d v h
        simp only [finE] at h
        split at h
        · rename_i t ht
          rw [Env.get_cons] at h
          by_cases e : t = d
          · subst e; simp at h; exact .inl ⟨n, by omega, ht, h.symm⟩
          · simp only [e, if_false] at h
            rcases ih (by omega) d v h with ⟨i, hi, h1, h2⟩ | ⟨h1, h2⟩
            · exact .inl ⟨i, by omega, h1, h2⟩
            · refine .inr ⟨h1, fun i hi => ?_⟩
              by_cases e2 : i = n
              · subst e2; rw [ht]; intro e3; cases e3; exact e rfl
              · exact h2 i (by omega)
        · rename_i ht
          rcases ih (by omega) d v h with ⟨i, hi, h1, h2⟩ | ⟨h1, h2⟩
          · exact .inl ⟨i, by omega, h1, h2⟩
          · refine .inr ⟨h1, fun i hi => ?_⟩
            by_cases e2 : i = n
            · subst e2; rw [ht]; simp
            · exact h2 i (by omega)
    intro d v h
    rcases key l.length (Nat.le_refl _) d v h with ⟨i, hi, h1, rfl⟩ | ⟨h1, h2⟩
    · exact p5 i hi d h1
    · exact p6 d v h1 (fun j hj => h2 j (dstIn_lt hj) hj)
  · have hnone : ∀ j, ¬ done (Array.replicate l.length false) j := fun j h => by
      unfold done at h
      rw [getD_replicate_false'] at h
      cases h
    exact ⟨by simp, fun i h => absurd h (hnone i), ha.defers, ha.size, fun i h => absurd h (hnone i), fun s v hs _ => ha.get s v hs, fun i h => absurd h (hnone i), fun i h => absurd h (hnone i), Nat.zero_le _, hap, fun q c hq => absurd hq (by omega), fun q c _ _ h => hnone c h, by
      have := hi.drew
      exact this.perm h0⟩
  · exact Nat.le_trans (List.length_filter_le _ _) (by simp)
end
end Go.Sl

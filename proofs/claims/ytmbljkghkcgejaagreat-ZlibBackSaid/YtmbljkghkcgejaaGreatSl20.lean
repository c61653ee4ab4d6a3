/- Walks of functions that the law reaches, and what they lean on; no conditions. -/
import Derived.Test.YtmbljkghkcgejaaGreatSl19
import Derived.Test.YtmbljkghkcgejaaGreatSl13
import Derived.Recover
set_option linter.unusedVariables false
set_option linter.unusedSimpArgs false
set_option maxRecDepth 100000
namespace Go.Sl
open Go.RowKit (Below)
def sa (R : List PanicEntry → List ae → Prop) : Ending → List ae → Prop := fun e G => ∃ ch, e = .panicked ch ∧ R ch G
def tq (R : Value → List ae → Prop) (S : List PanicEntry → List ae → Prop) : Ending → List ae → Prop := fun e G => (∃ v, e = .returned v ∧ R v G) ∨ (∃ ch, e = .panicked ch ∧ S ch G)
abbrev jY (t : TypeId) (v : Value) : List PanicEntry := [{ v := .iface t v, recovered := false }]
section
variable {C : Ctx} {Q : QT} {E : Env} {L L' F : List ae} {ops : Array Oper} {rest : List Oper} {d : Nat} {ty : TypeId} {pos : String} {aft : Array Edge} {op : Op} {v : Value}
theorem xp {rs : Array ResultVar} {F G : List ae} {R : List PanicEntry → List ae → Prop} {ch : List PanicEntry} (hR : R ch G) (hs : Sub L (G ++ F)) : pI C rs F (sa R) (.panic ch) E L := ⟨G, ⟨ch, rfl, hR⟩, hs⟩
theorem DP {rs : Array ResultVar} {F G : List ae} {R : Value → List ae → Prop} {S : List PanicEntry → List ae → Prop} {ch : List PanicEntry} (hR : S ch G) (hs : Sub L (G ++ F)) : pI C rs F (tq R S) (.panic ch) E L := ⟨G, .inr ⟨ch, rfl, hR⟩, hs⟩
theorem Jy {rs : Array ResultVar} {F G : List ae} {R : Value → List ae → Prop} {S : List PanicEntry → List ae → Prop} (hr : mW C rs E L v) (hR : R v G) (hs : Sub L (G ++ F)) : pI C rs F (tq R S) .ret E L := ⟨v, G, hr, .inl ⟨v, rfl, hR⟩, hs⟩
theorem c0 {dst : Option Nat} {f : FuncId} {args : List Operand} {tys : Array TypeId} {vs : List Value} {Pre : List ae} {R : List PanicEntry → List ae → Prop} (hS : aD C.P f vs Pre (sa R)) (hb : aC C.P f = true) (hE : iB E args = some vs) (hL : fy L Pre F)
  (k : ∀ ch G, R ch G → Q (.panic ch) E (G ++ F)) : dk C ops (⟨dst, .call ⟨.value (.func f), args.toArray, tys⟩, ty, pos, aft, none⟩ :: rest) Q E L := by
 intro a w ha hi
 refine wpList_plain rfl (fun K hK => ?_)
 have hargs := ha.iB hE
 have hr : (execOp a.eval ⟨dst, .call ⟨.value (.func f), args.toArray, tys⟩, ty, pos, aft, none⟩).run C.P w = .ok (.enter f vs.toArray) w := by
  simp only [execOp, resolve, hargs, Deferred.ofValue, Act.eval, invoke, Sem.run_bind, Sem.run_pure, Result.andThen_ok, Array.append_empty, Array.empty_append, gD hb]
 unfold Oper.wp
 rw [hr]
 refine (hS C.w0 F w (hi.perm hL.perm)).mono ?_
 rintro e w' ⟨G, h1, ch, rfl, h2⟩
 exact ⟨E, _, ha, h1, k ch G h2⟩
theorem EA {dst : Option Nat} {f : FuncId} {t : Nat} {args : List Operand} {tys : Array TypeId} {vs fs cs : List Value} {Pre : List ae} {R : List PanicEntry → List ae → Prop} (hS : aD C.P f (fs ++ vs ++ cs) Pre (sa R)) (hb : aC C.P f = true) (ht : E.get t = some (.func (.func f) fs.toArray cs.toArray)) (hE : iB E args = some vs) (hL : fy L Pre F)
  (k : ∀ ch G, R ch G → Q (.panic ch) E (G ++ F)) : dk C ops (⟨dst, .call ⟨.value (.tmp t), args.toArray, tys⟩, ty, pos, aft, none⟩ :: rest) Q E L := by
 intro a w ha hi
 refine wpList_plain rfl (fun K hK => ?_)
 have hargs := ha.iB hE
 have hev := ha.eval (x := .tmp t) ht
 have hr : (execOp a.eval ⟨dst, .call ⟨.value (.tmp t), args.toArray, tys⟩, ty, pos, aft, none⟩).run C.P w = .ok (.enter f (fs ++ vs ++ cs).toArray) w := by
  simp only [execOp, resolve, hargs, hev, Deferred.ofValue, invoke, Sem.run_bind, Sem.run_pure, Result.andThen_ok, gD hb]
  simp
 unfold Oper.wp
 rw [hr]
 refine (hS C.w0 F w (hi.perm hL.perm)).mono ?_
 rintro e w' ⟨G, h1, ch, rfl, h2⟩
 exact ⟨E, _, ha, h1, k ch G h2⟩
theorem uv {dst : Option Nat} {x : Operand} {t : TypeId} {u : Value} (hx : ay E x = some (.iface t u)) (k : Q (.panic (jY t u)) E L) : dk C ops (⟨dst, .panic x, ty, pos, aft, none⟩ :: rest) Q E L := by
 intro a w ha hi
 refine wpList_plain rfl (fun K hK => ?_)
 have hr : (execOp a.eval ⟨dst, .panic x, ty, pos, aft, none⟩).run C.P w = .halt (.panic (.iface t u)) w := by
  simp [execOp, ha.eval hx, Instr.panic, goPanic]
 unfold Oper.wp
 rw [hr]
 exact ⟨E, _, ha, hi, k⟩
def mK (P : Program) (t : TypeId) : Bool := match P.underlying t with | some (.interface _) => false | some _ => true | none => false
theorem ux {x : Operand} {t : TypeId} (ht : mK C.P t = true) (hx : ay E x = some v) : bX C (.makeInterface t x) ty E L (.iface t v) L := dR fun d pos aft g a w ha => by
 unfold mK at ht
 split at ht <;> try simp at ht
 rename_i ds hne hds
 simp only [execOp, ha.eval hx, Instr.makeInterface, Sem.run_bind, run_underlying hds, Result.andThen_ok]
 cases ds <;> first | (exact absurd rfl (hne _)) | simp [Sem.run_pure]
theorem xt {t e : TypeId} {p : Option Addr} {n c : Nat} (ht : C.P.underlying t = some (.slice e)) (d : Nat) (w : World) : (Op.equalIn (d + 1) t (.slice p n c) (.slice none 0 0)).run C.P w = .ok p.isNone w := by
 cases p <;> simp [Op.equalIn, run_underlying ht]
theorem DY {x y : Operand} {t t' e : TypeId} {p : Option Addr} {n c : Nat} (ht : C.P.underlying t = some (.slice e)) (hx : ay E x = some (.slice p n c)) (hy : ay E y = some (.slice none 0 0)) : bX C (.binOp .eql t x y t') ty E L (.bool p.isNone) L :=
 dR fun d pos aft g a w ha => by
  rw [jo d pos aft g (ha.eval hx) (ha.eval hy) (by simp [eqGuard])]
  have h := xt ht (p := p) (n := n) (c := c) 9999 w
  simp only [binOp, Op.equal, Op.maxDepth, Sem.run_bind, h, Result.andThen_ok, Sem.run_pure]
def N0 (P : Program) (t : TypeId) : Bool := match P.underlying t with | some (.func _ _ _) => true | _ => false
end
theorem cL {A : ae} {L : List ae} (hA : ∀ w0, A w0 (fun _ => none)) : Sub L (A :: L) := fun w0 w hi => hi.sd (hA w0)
abbrev QR := Exit → Act → World → Prop
def zH (C : Ctx) (c : Code) (Q : QR) (E : Env) (L : List ae) : Prop := ∀ a w, gf C E a → Inv C.w0 L w → c.wp C.P Q a w
def qr (C : Ctx) (Q : QR) : QT := fun e E L => ∀ a w, gf C E a → Inv C.w0 L w → Q e a w
section
variable {C : Ctx} {Q : QR} {E : Env} {L : List ae}
theorem F8 {c : Code} (h : Wp C c (qr C Q) E L) : zH C c Q E L := fun a w ha hi =>
 Code.wp_mono (fun e a w ⟨E, L, ha, hi, q⟩ => q a w ha hi) (h a w ha hi)
theorem qR {x y : Code} (h : Wp C x (iJ (fun E L => zH C y Q E L) (qr C Q)) E L) : zH C (.seq x y) Q E L := fun a w ha hi =>
 Go.wp_seq (Code.wp_mono (fun e a w ⟨E, L, ha, hi, q⟩ => by
  cases e with
  | normal => exact q a w ha hi
  | exit _ => exact q a w ha hi
  | goto _ => exact q a w ha hi
  | ret => exact q a w ha hi
  | panic _ => exact q a w ha hi
  | outgrown => exact q a w ha hi) (h a w ha hi))
theorem vM {y : Code} {id d : Nat} {fn : FuncId} {caps : List Operand} {cs : List Value} {ty1 ty2 : TypeId} {pos1 pos2 : String} {aft1 aft2 : Array Edge} {tys : Array TypeId} (hc : iB E caps = some cs) (hd : Nat.blt d C.n = true)
  (h : zH { C with D := { target := .fn (.func fn) cs.toArray, args := #[] } :: C.D } y Q ((d, .func (.func fn) #[] cs.toArray) :: E) L) :
  zH C (.seq (.region id [⟨some d, .makeFunc (.func fn) #[] caps.toArray, ty1, pos1, aft1, none⟩, ⟨none, .defer ⟨.value (.tmp d), #[], tys⟩, ty2, pos2, aft2, none⟩].toArray false) y) Q E L := fun a w ha hi => by
 refine Go.wp_seq (wp_region_lit ?_)
 refine wpList_plain rfl (fun K hK => ?_)
 have h1 : (execOp a.eval ⟨some d, .makeFunc (.func fn) #[] caps.toArray, ty1, pos1, aft1, none⟩).run C.P w = .ok (.value (.func (.func fn) #[] cs.toArray)) w := by
  simp only [execOp, Instr.makeFunc, ha.iB hc, Sem.run_bind, Sem.run_pure, Result.andThen_ok, Array.map_empty]
 unfold Oper.wp
 rw [h1]
 refine hK _ _ ?_
 have ha2 := ha.put (fM hd) (.func (.func fn) #[] cs.toArray)
 refine wpList_plain rfl (fun K hK => ?_)
 have hev := ha2.eval (x := .tmp d) (v := .func (.func fn) #[] cs.toArray) (by simp [ay, Env.iF])
 have h2 : (execOp (a.put (some d) (.func (.func fn) #[] cs.toArray)).eval ⟨none, .defer ⟨.value (.tmp d), #[], tys⟩, ty2, pos2, aft2, none⟩).run C.P w = .ok (.defer { target := .fn (.func fn) cs.toArray, args := #[] }) w := by
  simp [execOp, resolve, hev, Deferred.ofValue]
 unfold Oper.wp
 rw [h2]
 refine hK _ _ (wpList_nil ?_)
 have ha3 : gf { C with D := { target := .fn (.func fn) cs.toArray, args := #[] } :: C.D } ((d, .func (.func fn) #[] cs.toArray) :: E) { a.put (some d) (.func (.func fn) #[] cs.toArray) with defers := { target := .fn (.func fn) cs.toArray, args := #[] } :: (a.put (some d) (.func (.func fn) #[] cs.toArray)).defers } :=
  ⟨by simp [ha2.defers], ha2.size, ha2.get⟩
 exact h _ _ ha3 hi
end
theorem xg {P : Program} {f : FuncId} {fn : Func} {c : Code} {args : List Value} {Pre : List ae} {Post : Ending → List ae → Prop} {n : Nat} (E : Env) (hf : P.funcs[f]? = some fn) (hb : fn.body = some c) (hn : fn.ntmps = n) (hE : wG 0 args = E) (hl : Nat.ble args.length n = true)
  (h : ∀ w0 F, zH ⟨P, w0, n, [], fun _ _ => False⟩ c (bodyPostD P fn fun e w' => ∃ G, Inv w0 (G ++ F) w' ∧ Post e G) E (Pre ++ F)) : aD P f args Pre Post := by
 intro w0 F w hi
 have hl := Nat.le_of_ble_eq_true hl
 refine calls_of_wp_defers hf hb (h w0 F _ w ?_ hi)
 refine ⟨rfl, ?_, ?_⟩
 ·simp [hn]; omega
 ·intro d v hd
  rw [← hE] at hd
  obtain ⟨_, h2⟩ := si 0 args d v hd
  have hlt := (List.getElem?_eq_some_iff.1 h2).1
  simp at h2 hlt ⊢
  rw [Array.getElem?_append_left (by simpa using hlt)]
  simpa using h2
theorem yx {x : Int} (h : IntKind.u8.min ≤ x ∧ x ≤ IntKind.u8.max) : 0 ≤ x ∧ x < 256 := by
 have h1 : IntKind.u8.min = 0 := by decide
 have h2 : IntKind.u8.max = 255 := by decide
 omega
theorem Kv {α : Type} {c : Ec α} {w0 w : World} {L : List ae} {R : ae} {p : Option Addr} {n : Nat} {l : List α} (hm : R ∈ L) (hR : ∀ w0 h, R w0 h → bJ c p n l w0 h) (hi : Inv w0 L w) : p = none → l = [] := by
 intro e
 obtain ⟨F, hb, h, a, h1, h2, d, l1, l2, hp, _⟩ := hi.mem hm
 obtain ⟨e1, e2, e3⟩ := hR _ _ hp
 rcases e3 with h0 | ⟨b, o, h1, _⟩
 ·exact List.length_eq_zero_iff.1 (by omega)
 ·rw [e] at h1; cases h1
section
variable {C : Ctx} {Q : QT} {E E0 : Env} {L F : List ae} {ops : Array Oper} {ty : TypeId} {pos : String} {aft : Array Edge}
theorem fN {dst : Option Nat} {f : FuncId} {args : List Operand} {tys : Array TypeId} {vs : List Value} {Pre : List ae} {S : List PanicEntry → List ae → Prop} {R : Value → List ae → Prop} (hS : aD C.P f vs Pre (sa S)) (hb : aC C.P f = true) (hE : iB E args = some vs) (hL : fy L Pre F) (hP : ∀ ch G, S ch G → C.X ch (G ++ F)) :
  Step C ops ⟨dst, .call ⟨.value (.func f), args.toArray, tys⟩, ty, pos, aft, none⟩ E L R := by
 intro a w K Qx ha hi hK
 rw [if_pos (by simp [Region.wanted])]
 have hargs := ha.iB hE
 have hr : (execOp a.eval ⟨dst, .call ⟨.value (.func f), args.toArray, tys⟩, ty, pos, aft, none⟩).run C.P w = .ok (.enter f vs.toArray) w := by
  simp only [execOp, resolve, hargs, Deferred.ofValue, Act.eval, invoke, Sem.run_bind, Sem.run_pure, Result.andThen_ok, Array.append_empty, Array.empty_append, gD hb]
 unfold Oper.wp
 rw [hr]
 refine (hS C.w0 F w (hi.perm hL.perm)).mono ?_
 rintro e w' ⟨G, h1, ch, rfl, h2⟩
 exact Qx.2 ch E _ a w' ha h1 (hP ch G h2)
variable {l : List Oper} {ts : List aZ} {i : Nat} {c : gS} {o : Oper} {os : List Oper} {ps : List et} {K : gS → Prop} {A0 : List ae}
theorem bj {p : et} (v0 : Value) (R : Yv → List ae) (E : Yv → Env) (hE : ∀ y, kO l E0 p i c y = E y) (hc : ie ts i = []) (hr : ∀ y, eQ (e9 ts i) y = R y)
  (h : ∀ y M, (∀ j ∈ p.gq, dj c i j y) → Step C l.toArray o (E y) (R y ++ (M ++ A0)) (fun _ _ => False))
  (r : gX C l E0 ts A0 (i + 1) (c.put (fun _ => v0) (fun _ => False)) os ps K) : gX C l E0 ts A0 i c (o :: os) (p :: ps) K :=
 ⟨(fun _ => v0), (fun _ => False), fun _ _ _ => rfl, fun _ _ _ => rfl, fun y M h3 a w K' Q ha hi hK => by
  rw [hE] at ha
  rw [hc, hr] at hi
  exact h y M h3 a w K' Q ha hi (fun _ _ _ h => h.elim), r⟩
end
end Go.Sl

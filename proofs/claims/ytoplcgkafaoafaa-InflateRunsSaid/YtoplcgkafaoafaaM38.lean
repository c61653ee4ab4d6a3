/- Steps of the proof: the walks of the functions that the statement reaches; printed by a program of ours. -/
import Derived.Test.YtoplcgkafaoafaaInfBase
import Derived.Test.YtoplcgkafaoafaaM37
import Derived.Laws.BytesArg
/-
  Calls that yield something to point at, within regions that draw their order.
-/
namespace Go.Sl
set_option linter.unusedVariables false
section
variable {C : Ctx} {E : Env} {L F : List HProp} {ops : Array Oper} {d : Option Nat} {ty : TypeId} {pos : String} {aft : Array Edge}
theorem st_callP {A : Nat → HProp} {f : FuncId} {args : List Operand} {tys : Array TypeId} {vs : List Value} {Pre Post : List HProp} (hS : Ctr C.P f vs Pre (Ret fun v G => ∃ b, v = .pointer (some ⟨b, 0, none⟩) ∧ G = A b :: Post)) (hb : bodyB C.P f = true) (hE : evs E args = some vs) (hL : Rems L Pre F) :
    Step C ops ⟨d, .call ⟨.value (.func f), args.toArray, tys⟩, ty, pos, aft, none⟩ E L (fun v L' => v = .pointer (some ⟨ptB v, 0, none⟩) ∧ True ∧ L'.Perm ((A (ptB v) :: Post) ++ F)) :=
  st_call hS hb hE hL fun v G ⟨b, e1, e2⟩ => by subst e1; subst e2; exact ⟨rfl, trivial, .refl _⟩
theorem v_buildA {t n e sz : Nat} {parts : List (Nat × Operand)} {pv : List (Nat × Value)} {zs cs : List Value} (har : arrayB C.P t = some (n, e, sz)) (hz : zeroB C.P t = some zs) (hp : pevs E parts = some pv) (hf : Instr.fill (fun i => some (i * sz, sz)) zs.toArray pv = some cs.toArray) :
    OpV C (.build t parts.toArray) ty E L (.agg cs.toArray) L :=
  pureV fun d pos aft g a w ha => by
    obtain ⟨i', z, hz1, hz2, hz3, hz4⟩ := zero_spec hz
    have hmap : parts.toArray.map (fun x => match x with | (i, x) => (i, a.eval x)) = pv.toArray := by
      rw [← pevs_spec hp a ha]; simp
    unfold arrayB at har
    split at har
    · rename_i n' e' hfs
      split at har
      · rename_i i hi
        cases har
        simp only [execOp, hmap, Instr.build, Sem.run_bind, zeroValue, typeInfo, run_program, Result.andThen_ok, hz1, hz2, Sem.run_pure, run_underlying hfs, run_sizeOf hi, hz3]
        simp [hf]
      · cases har
    · cases har
end
theorem row_take {p : Option Addr} {n c m : Nat} {l : List Int} {w0 : World} {h : Hp} (hn : n = l.length) (hm : m ≤ n) (hh : Row I3 p n c l w0 h) : RdR I3 p (l.take m).length (l.take m) w0 h := by
  have := hh.rd.sub 0 m m (Nat.zero_le _) hm (Nat.le_refl _)
  rw [subP_zero, Nat.sub_zero, List.drop_zero] at this
  rw [List.length_take, ← hn, Nat.min_eq_left hm]
  exact this
theorem row_drop {p : Option Addr} {n c m : Nat} {l : List Int} {w0 : World} {h : Hp} (hn : n = l.length) (hm : m ≤ n) (hc : n ≤ c) (hh : Row I3 p n c l w0 h) : RdR I3 (subP p m c 1) (l.drop m).length (l.drop m) w0 h := by
  have := hh.rd.sub m n c hm (Nat.le_refl _) hc
  rw [List.take_of_length_le (by rw [List.length_drop]; omega)] at this
  rw [List.length_drop, ← hn]
  exact this
theorem row_rd {p : Option Addr} {n c : Nat} {l : List Int} {w0 : World} {h : Hp} (hn : n = l.length) (hh : Row I3 p n c l w0 h) : RdR I3 p l.length l w0 h := by subst hn; exact hh.rd
end Go.Sl

/-
  The whole machine of inflate in memory.
-/
namespace Go.Sl
set_option linter.unusedVariables false
/-- The codes, where the block has some. -/
def CD (li di : Value) (s : InfP.St) : HProp := fun w0 h => s.kind ≤ 0 ∨ ∃ l d, li = .pointer (some ⟨l, 0, none⟩) ∧ di = .pointer (some ⟨d, 0, none⟩) ∧ sats w0 [HC l s.lits, HC d s.dist] h
structure Pv where
  li : Value
  di : Value
/-- The machine, all of it. -/
def MM (b bl : Nat) (sz mo : Int) (B : List Int) (s : InfP.St) : HProp := fun w0 h => ∃ i : Pv, True ∧ sats w0 [MS b bl sz mo i.li i.di s, LW bl B s.at_ [] 0, CD i.li i.di s] h
theorem sats_last {w0 : World} {Bs : List HProp} {A : HProp} {h : Hp} (hA : ∀ h, sats w0 Bs h → A w0 h) (hh : sats w0 Bs h) : sats w0 [A] h := ⟨h, fun _ => none, fun _ => .inr rfl, Hp.le_refl _, (fun _ _ e => by cases e), hA h hh, trivial⟩
theorem sats_imp {w0 : World} {X : HProp} {L L' : List HProp} {h : Hp} (k : ∀ h, sats w0 L h → sats w0 L' h) (hh : sats w0 (X :: L) h) : sats w0 (X :: L') h := by
  obtain ⟨h1, h2, a, b, c, d, e⟩ := hh
  exact ⟨h1, h2, a, b, c, d, k h2 e⟩
theorem mm_close0 {b bl : Nat} {sz mo : Int} {B : List Int} {s : InfP.St} {li di : Value} {w0 : World} {h : Hp} (hk : s.kind ≤ 0) (hh : sats w0 [MS b bl sz mo li di s, LW bl B s.at_ [] 0] h) : MM b bl sz mo B s w0 h :=
  ⟨⟨li, di⟩, trivial, sats_imp (fun h hh => sats_imp (fun h hh => sats_last (fun h _ => .inl hk) hh) hh) hh⟩
theorem mm_closeC {b bl l d : Nat} {sz mo : Int} {B : List Int} {s : InfP.St} {w0 : World} {h : Hp} (hh : sats w0 [MS b bl sz mo (.pointer (some ⟨l, 0, none⟩)) (.pointer (some ⟨d, 0, none⟩)) s, LW bl B s.at_ [] 0, HC l s.lits, HC d s.dist] h) : MM b bl sz mo B s w0 h :=
  ⟨⟨_, _⟩, trivial, sats_imp (fun h hh => sats_imp (fun h hh => sats_last (fun h hh => .inr ⟨l, d, rfl, rfl, hh⟩) hh) hh) hh⟩
theorem mm_closeD {b bl : Nat} {sz mo : Int} {B : List Int} {s : InfP.St} {li di : Value} {w0 : World} {h : Hp} (hh : sats w0 [MS b bl sz mo li di s, LW bl B s.at_ [] 0, CD li di s] h) : MM b bl sz mo B s w0 h := ⟨⟨li, di⟩, trivial, hh⟩
theorem cd_open {li di : Value} {s : InfP.St} {w0 : World} {h : Hp} (hk : 0 < s.kind) (hh : CD li di s w0 h) : ∃ i : Nat × Nat, (li = .pointer (some ⟨i.1, 0, none⟩) ∧ di = .pointer (some ⟨i.2, 0, none⟩)) ∧ sats w0 [HC i.1 s.lits, HC i.2 s.dist] h := by
  rcases hh with hh | ⟨l, d, h1, h2, h3⟩
  · exact absurd hk (by omega)
  · exact ⟨(l, d), ⟨h1, h2⟩, h3⟩
theorem Ctr.fold {P : Program} {f : FuncId} {args : List Value} {A : HProp} {Bs : List HProp} {Post : Ending → List HProp → Prop} (h : Ctr P f args [A] Post) (hA : ∀ w0 h, sats w0 Bs h → A w0 h) : Ctr P f args Bs Post := fun w0 F w hi => h w0 F w (hi.cls (hA w0))
end Go.Sl

/-
  What is asked of a panic's value, of which type it is.
-/
namespace Go.Sl
set_option linter.unusedVariables false
set_option linter.unusedSimpArgs false
section
variable {C : Ctx} {E : Env} {L : List HProp} {ty : TypeId}
def ifaceB (P : Program) (t : TypeId) : Bool := match P.underlying t with | some (.interface _) => true | _ => false
theorem run_equal_if {t T : TypeId} {is : Array (String × TypeId)} {u : Value} (ht : C.P.underlying t = some (.interface is)) (d : Nat) (w : World) : (Op.equalIn (d + 1) t (.iface T u) .nilIface).run C.P w = .ok false w := by
  simp [Op.equalIn, run_underlying ht]
theorem run_equal_nn {t : TypeId} {is : Array (String × TypeId)} (ht : C.P.underlying t = some (.interface is)) (d : Nat) (w : World) : (Op.equalIn (d + 1) t .nilIface .nilIface).run C.P w = .ok true w := by
  simp [Op.equalIn, run_underlying ht]
theorem v_eqnilI {x y : Operand} {t t' T : TypeId} {u : Value} (ht : ifaceB C.P t = true) (hx : evalE E x = some (.iface T u)) (hy : evalE E y = some .nilIface) : OpV C (.binOp .eql t x y t') ty E L (.bool false) L :=
  pureV fun d pos aft g a w ha => by
    unfold ifaceB at ht
    split at ht <;> try simp at ht
    rename_i is hds
    rw [run_bin d pos aft g (ha.eval hx) (ha.eval hy) (by simp [eqGuard])]
    have h := run_equal_if hds (T := T) (u := u) 9999 w
    simp only [binOp, Op.equal, Op.maxDepth, Sem.run_bind, h, Result.andThen_ok, Sem.run_pure]
theorem v_eqnilJ {x : Operand} {t t' : TypeId} (ht : ifaceB C.P t = true) (hx : evalE E x = some .nilIface) : OpV C (.binOp .eql t x (.const .nilIface) t') ty E L (.bool true) L :=
  pureV fun d pos aft g a w ha => by
    unfold ifaceB at ht
    split at ht <;> try simp at ht
    rename_i is hds
    rw [run_bin d pos aft g (ha.eval hx) (ha.eval (x := .const .nilIface) rfl) (by simp [eqGuard])]
    have h := run_equal_nn hds 9999 w
    simp only [binOp, Op.equal, Op.maxDepth, Sem.run_bind, h, Result.andThen_ok, Sem.run_pure]
theorem v_tassY {x : Operand} {xT T : TypeId} {u : Value} (hc : concB C.P T = true) (hx : evalE E x = some (.iface T u)) : OpV C (.typeAssert x xT T true) ty E L (.tuple #[u, .bool true]) L :=
  pureV fun d pos aft g a w ha => by
    unfold concB at hc
    split at hc <;> try simp at hc
    rename_i ds hne hds
    simp only [execOp, ha.eval hx, Instr.typeAssert, Sem.run_bind, run_underlying hds, Result.andThen_ok]
    cases ds <;> first | (exact absurd rfl (hne _)) | simp [Sem.run_pure]
theorem v_tassN {x : Operand} {xT T t : TypeId} {u z : Value} (hc : concB C.P T = true) (hz : (C.P.info? T).bind (·.zero) = some z) (hn : t ≠ T) (hx : evalE E x = some (.iface t u)) : OpV C (.typeAssert x xT T true) ty E L (.tuple #[z, .bool false]) L :=
  pureV fun d pos aft g a w ha => by
    unfold concB at hc
    split at hc <;> try simp at hc
    rename_i ds hne hds
    obtain ⟨i, hi, hz⟩ : ∃ i, C.P.info? T = some i ∧ i.zero = some z := by
      cases h : C.P.info? T with
      | none => rw [h] at hz; cases hz
      | some i => rw [h] at hz; exact ⟨i, rfl, hz⟩
    have hzv : (zeroValue T).run C.P w = .ok z w := by simp only [zeroValue, typeInfo, Sem.run_bind, run_program, Result.andThen_ok, hi, Sem.run_pure, hz]
    simp only [execOp, ha.eval hx, Instr.typeAssert, Sem.run_bind, run_underlying hds, Result.andThen_ok]
    cases ds <;> first | (exact absurd rfl (hne _)) | simp [Sem.run_pure, hn, hzv]
end
/-- Walked by what is known, within a frame that panics. -/
theorem wpS_walk {C : Ctx} {c : Code} {Q : Exit → Act → List Frame → World → Prop} {a : Act} {cs : List Frame} {w : World} {E : Env} {L : List HProp} (ha : Agr C E a) (hi : Inv C.w0 L w) (h : Wp C c (qr C fun e a w => Q e a cs w) E L) : c.wpS C.P Q a cs w := wpS_of_wp (wr_of h a w ha hi)
theorem agr_40 {P : Program} {w0 : World} {X : List PanicEntry → List HProp → Prop} (x y : Value) : Agr ⟨P, w0, 19, [], X⟩ [(6, y), (0, x)] { tmps := #[x] ++ (Array.replicate 18 undef).setIfInBounds 5 y, defers := [] } := by
  refine ⟨rfl, by simp, fun d v hd => ?_⟩
  rw [Env.get_cons] at hd
  split at hd
  · rename_i h; subst h; cases hd; simp
  · rw [Env.get_cons] at hd
    split at hd
    · rename_i h; subst h; cases hd; simp
    · simp [Env.get] at hd
end Go.Sl
namespace Go.Sl
set_option linter.unusedVariables false
theorem Ctr.fgt {P : Program} {f : FuncId} {args : List Value} {Pre : List HProp} {v0 : Value} {R : List HProp → Prop} (h : Ctr P f args Pre (Ret fun v G => v = v0 ∧ R G)) : Ctr P f args Pre (Ret fun _ G => R G) := h.mono fun e G h => by
  rcases h with ⟨v, rfl, _, h⟩; exact ⟨v, rfl, h⟩
end Go.Sl

/-
  Bytes as strings.
-/
namespace Go.Sl
set_option linter.unusedVariables false
set_option linter.unusedSimpArgs false
section
variable {C : Ctx} {E : Env} {L : List HProp} {ty : TypeId}
theorem flat_bytes (l : List Int) : l.flatMap (fun x => [Value.int .u8 x]) = l.map (Value.int .u8) := by
  induction l with
  | nil => rfl
  | cons a l ih => simp [List.flatMap_cons, ih]
theorem v_str {T : TypeId} {x : Operand} {src dst e : TypeId} {p : Option Addr} {n cap : Nat} {l : List Int} (hs : C.P.underlying src = some (.slice e)) (he : C.P.underlying e = some (.int .u8)) (hd : C.P.underlying dst = some .string) (hx : evalE E x = some (.slice p n cap)) (H : Has C.w0 L (ecI T .u8) p n l) : OpV C (.convert src dst x) ty E L (.string (strOfNums l)) L :=
  fun d pos aft g a w ha hi => by
    refine ⟨w, .inl ?_, hi⟩
    obtain ⟨R, hm, hR⟩ := H
    have hh := hi.mem hm
    have hlen : l.length = n := Has.len ⟨R, hm, hR⟩ hi
    obtain ⟨e1, e2⟩ := hi.rd hm (fun h hh => (hR h hh).2)
    have hconv : (convert src dst (.slice p n cap)).run C.P w = .ok (.string (strOfNums l)) w := by
      cases p with
      | none =>
        have h0 : n = 0 := by
          rcases e2 with h | ⟨b, o, h, _⟩
          · exact h
          · cases h
        have hl : l = [] := List.length_eq_zero_iff.1 (by omega)
        rw [run_convert_bytes_nil w src e hs he n cap dst hd, hl]
        rfl
      | some q =>
        rcases e2 with h | ⟨b, o, h, hc⟩
        · have hl : l = [] := List.length_eq_zero_iff.1 (by omega)
          subst hl
          subst h
          rw [run_convert_bytes_string w src dst e _ 0 cap hs he hd, run_bytesToString w q 0 cap [] (by simp [loadCells, loadCellsFrom])]
          rfl
        · cases h
          refine run_convert_bytes_arg w src e hs he b o n cap l hlen (fun i hi2 => ?_) dst hd
          refine hc i _ ?_
          rw [flat_bytes]
          have hil : i < l.length := by omega
          simp [List.getElem?_map, List.getD_eq_getElem?_getD, hil]
    simp only [execOp, ha.eval hx, Sem.run_bind, hconv, Result.andThen_ok, Sem.run_pure]
theorem v_seq {x y : Operand} {t t' : TypeId} {s u : ByteArray} {r : Bool} (hx : evalE E x = some (.string s)) (hy : evalE E y = some (.string u)) (hr : (s.toList == u.toList) = r) : OpV C (.binOp .eql t x y t') ty E L (.bool r) L :=
  pureV fun d pos aft g a w ha => by
    rw [run_bin d pos aft g (ha.eval hx) (ha.eval hy) (by simp [eqGuard])]
    simp [binOp, Op.stringOp, ← hr, Sem.run_pure]
theorem v_sself {x y : Operand} {t t' : TypeId} {s : ByteArray} (hx : evalE E x = some (.string s)) (hy : evalE E y = some (.string s)) : OpV C (.binOp .eql t x y t') ty E L (.bool true) L := v_seq hx hy (by simp)
end
end Go.Sl
namespace Go.Sl
end Go.Sl
namespace Go.Sl
end Go.Sl

/- Walks of functions that the law reaches, and what they lean on; no conditions. -/
import Derived.Test.YtmbljkghkcgejaaGreatSlNet3
import Derived.Test.YtmbljkghkcgejaaGreatSl19
import Derived.Test.YtmbljkghkcgejaaGreatSl23
set_option linter.unusedVariables false
set_option linter.unusedSimpArgs false
set_option maxRecDepth 100000
namespace Go.Sl
section
variable {C : Ctx} {E0 : Env} {Q : QT} {L : List HProp} {l : List Oper} {ts : List Tok} {i : Nat} {c : AccN} {op : Op} {os : List Oper} {ps : List Par} {f : Yv → Value} {K : AccN → Prop} {A0 : List HProp} {p : Par} {d : Option Nat} {ty : TypeId} {pos : String} {aft : Array Edge} {o : Oper}
theorem nV (h : ∀ y, (∀ j ∈ p.anc, KnN c i j y) → ∀ L, OpV C op ty (envN l E0 p i c y) L (f y) L) (r : OwN C l E0 ts A0 (i + 1) (c.put f (fun _ => True)) os ps K)
  (hc : consT ts i = [] := by rfl) (hr : readT ts i = [] := by rfl) (hp : prodT ts i = [] := by rfl) (hf : ∀ y v, f (upd y i v) = f y := by intros; rfl) (hl : Loc i p f := by intro y y2 h; rfl) : OwN C l E0 ts A0 i c (⟨d, op, ty, pos, aft, none⟩ :: os) (p :: ps) K :=
 net_pure _ (fun y => rfl) hc hr hp (fun y hA L => st_v (h y hA L) ⟨rfl, rfl⟩) hf hl r
theorem nR (h : ∀ y A, (∀ j ∈ p.anc, KnN c i j y) → OpV C op ty (envN l E0 p i c y) (atY (readT ts i) y ++ A) (f y) (atY (readT ts i) y ++ A)) (r : OwN C l E0 ts A0 (i + 1) (c.put f (fun _ => True)) os ps K)
  (hc : consT ts i = [] := by rfl) (hp : prodT ts i = [] := by rfl) (hf : ∀ y v, f (upd y i v) = f y := by intros; rfl) (hl : Loc i p f := by intro y y2 h; rfl) : OwN C l E0 ts A0 i c (⟨d, op, ty, pos, aft, none⟩ :: os) (p :: ps) K :=
 net_read _ _ (fun y => rfl) hc (fun y => rfl) hp (fun y A hA => st_v (h y A hA) ⟨rfl, rfl⟩) hf hl r
theorem nE (h : ∀ y A, (∀ j ∈ p.anc, KnN c i j y) → Step C l.toArray o (envN l E0 p i c y) (atY (consT ts i) y ++ (atY (readT ts i) y ++ A)) (fun v' L' => v' = f y ∧ L'.Perm (atY (prodT ts i) y ++ (atY (readT ts i) y ++ A)))) (r : OwN C l E0 ts A0 (i + 1) (c.put f (fun _ => True)) os ps K)
  (hf : ∀ y v, f (upd y i v) = f y := by intros; rfl) (hM : ∀ y v, atY (prodT ts i) (upd y i v) = atY (prodT ts i) y := by intros; rfl) (hl : Loc i p f := by intro y y2 h; rfl) : OwN C l E0 ts A0 i c (o :: os) (p :: ps) K :=
 net_eff _ _ _ _ (fun y => rfl) (fun y => rfl) (fun y => rfl) (fun y => rfl) h hf hM hl r
end
def bitN (m : Nat) : List Nat := (List.range 96).filter fun k => (m / 2 ^ k) % 2 == 1
end Go.Sl
namespace Go.Sl
theorem ln {E : Env} : Le [] E := .nil _
theorem lc1 {E E2 : Env} {d0 : Nat} {v0 : Value} (l : Le E2 E) (h0 : E.get d0 = some v0 := by rfl) : Le ((d0, v0) :: E2) E := .cons h0 l
theorem lc2 {E E2 : Env} {d0 : Nat} {v0 : Value} {d1 : Nat} {v1 : Value} (l : Le E2 E) (h0 : E.get d0 = some v0 := by rfl) (h1 : E.get d1 = some v1 := by rfl) : Le ((d0, v0) :: (d1, v1) :: E2) E := .cons h0 (.cons h1 l)
theorem lc3 {E E2 : Env} {d0 : Nat} {v0 : Value} {d1 : Nat} {v1 : Value} {d2 : Nat} {v2 : Value} (l : Le E2 E) (h0 : E.get d0 = some v0 := by rfl) (h1 : E.get d1 = some v1 := by rfl) (h2 : E.get d2 = some v2 := by rfl) : Le ((d0, v0) :: (d1, v1) :: (d2, v2) :: E2) E := .cons h0 (.cons h1 (.cons h2 l))
theorem lc4 {E E2 : Env} {d0 : Nat} {v0 : Value} {d1 : Nat} {v1 : Value} {d2 : Nat} {v2 : Value} {d3 : Nat} {v3 : Value} (l : Le E2 E) (h0 : E.get d0 = some v0 := by rfl) (h1 : E.get d1 = some v1 := by rfl) (h2 : E.get d2 = some v2 := by rfl) (h3 : E.get d3 = some v3 := by rfl) : Le ((d0, v0) :: (d1, v1) :: (d2, v2) :: (d3, v3) :: E2) E := .cons h0 (.cons h1 (.cons h2 (.cons h3 l)))
theorem lc5 {E E2 : Env} {d0 : Nat} {v0 : Value} {d1 : Nat} {v1 : Value} {d2 : Nat} {v2 : Value} {d3 : Nat} {v3 : Value} {d4 : Nat} {v4 : Value} (l : Le E2 E) (h0 : E.get d0 = some v0 := by rfl) (h1 : E.get d1 = some v1 := by rfl) (h2 : E.get d2 = some v2 := by rfl) (h3 : E.get d3 = some v3 := by rfl) (h4 : E.get d4 = some v4 := by rfl) : Le ((d0, v0) :: (d1, v1) :: (d2, v2) :: (d3, v3) :: (d4, v4) :: E2) E := .cons h0 (.cons h1 (.cons h2 (.cons h3 (.cons h4 l))))
theorem rz1 {A0 : HProp} {M P F : List HProp} (h : Rems M P F) : Rems (A0 :: M) (A0 :: P) F := .cons rr0 h
theorem rz2 {A0 A1 : HProp} {M P F : List HProp} (h : Rems M P F) : Rems (A0 :: A1 :: M) (A0 :: A1 :: P) F := .cons rr0 (.cons rr0 h)
theorem rz3 {A0 A1 A2 : HProp} {M P F : List HProp} (h : Rems M P F) : Rems (A0 :: A1 :: A2 :: M) (A0 :: A1 :: A2 :: P) F := .cons rr0 (.cons rr0 (.cons rr0 h))
theorem rz4 {A0 A1 A2 A3 : HProp} {M P F : List HProp} (h : Rems M P F) : Rems (A0 :: A1 :: A2 :: A3 :: M) (A0 :: A1 :: A2 :: A3 :: P) F := .cons rr0 (.cons rr0 (.cons rr0 (.cons rr0 h)))
theorem rz5 {A0 A1 A2 A3 A4 : HProp} {M P F : List HProp} (h : Rems M P F) : Rems (A0 :: A1 :: A2 :: A3 :: A4 :: M) (A0 :: A1 :: A2 :: A3 :: A4 :: P) F := .cons rr0 (.cons rr0 (.cons rr0 (.cons rr0 (.cons rr0 h))))
theorem wI {n : Int} (h1 : -9223372036854775808 ≤ n := by omega) (h2 : n ≤ 9223372036854775807 := by omega) : IntKind.i64.wrap n = n := wrapI h1 h2
section
variable {C : Ctx} {Q : QT} {E E0 : Env} {L : List HProp} {ty : TypeId}
theorem xI {α : Type} {c : Ec α} {x ix : Operand} {t by_ n cap : Nat} {p : Option Addr} {k : IntKind} {i : Int} {l : List α} (ht : sliceB C.P t = some (c.T, c.sz, by_)) (H : Has C.w0 L c p n l) (h : evalE E x = some (.slice p n cap) := by rfl) (hi : evalE E ix = some (.int k i) := by rfl) (h0 : 0 ≤ i := by omega) (hlt : i < n := by omega) :
  OpV C (.indexAddr t x ix) ty E L (.pointer (some ⟨blk' p, off' p + i.toNat * c.sz, none⟩)) L := r_index ht h hi H h0 hlt
theorem xL {α : Type} {c : Ec α} {v : Value} {x : Operand} {t n : Nat} {p : Option Addr} {i : Int} {l : List α} (hs : scalarB C.P t = true) (H : Has C.w0 L c p n l) (hx : evalE E x = some (.pointer (some ⟨blk' p, off' p + i.toNat * c.sz, none⟩)) := by rfl) (h0 : 0 ≤ i := by omega) (hlt : i < n := by omega) (hf : Nat.blt 0 c.sz = true := by rfl) (hv : (c.e (c.g l i))[0]? = some v := by rfl) : OpV C (.load t x) ty E L v L := r_load hs hx H h0 hlt hf hv
variable {l : List Oper} {ts : List Tok} {i : Nat} {c : AccN} {op : Op} {os : List Oper} {ps : List Par} {f : Yv → Value} {K : AccN → Prop} {A0 : List HProp} {p : Par} {d : Option Nat} {pos : String} {aft : Array Edge} {o : Oper} {x : Operand}
theorem nM (r : OwN C l E0 ts A0 (i + 1) (c.put f (fun _ => True)) os ps K) (h : ∀ y, evalE (envN l E0 p i c y) x = some (f y) := by intro y; rfl)
  (hc : consT ts i = [] := by rfl) (hr : readT ts i = [] := by rfl) (hp : prodT ts i = [] := by rfl) (hf : ∀ y v, f (upd y i v) = f y := by intros; rfl) (hl : Loc i p f := by intro y y2 h; rfl) : OwN C l E0 ts A0 i c (⟨d, .move x, ty, pos, aft, none⟩ :: os) (p :: ps) K :=
 nV (fun y hA L => v_move (h y)) r hc hr hp hf hl
theorem nA (r : OwN C l E0 ts A0 (i + 1) (c.put f (fun _ => True)) os ps K) (h : ∀ y, evalE (envN l E0 p i c y) x = some (f y) := by intro y; rfl)
  (hc : consT ts i = [] := by rfl) (hr : readT ts i = [] := by rfl) (hp : prodT ts i = [] := by rfl) (hf : ∀ y v, f (upd y i v) = f y := by intros; rfl) (hl : Loc i p f := by intro y y2 h; rfl) : OwN C l E0 ts A0 i c (⟨d, .assign x, ty, pos, aft, none⟩ :: os) (p :: ps) K :=
 nV (fun y hA L => v_assign (h y)) r hc hr hp hf hl
theorem nN {q : Yv → Addr} (r : OwN C l E0 ts A0 (i + 1) (c.put (fun y => .pointer (some (q y))) (fun _ => True)) os ps K) (h : ∀ y, evalE (envN l E0 p i c y) x = some (.pointer (some (q y))) := by intro y; rfl)
  (hc : consT ts i = [] := by rfl) (hr : readT ts i = [] := by rfl) (hp : prodT ts i = [] := by rfl) (hf : ∀ y v, Value.pointer (some (q (upd y i v))) = .pointer (some (q y)) := by intros; rfl) (hl : Loc i p (fun y => Value.pointer (some (q y))) := by intro y y2 h; rfl) : OwN C l E0 ts A0 i c (⟨d, .nilCheck x, ty, pos, aft, none⟩ :: os) (p :: ps) K :=
 nV (fun y hA L => v_nil (h y)) r hc hr hp hf hl
theorem nG {s fd o b q : Nat} (ht : fieldB C.P s fd = some o) (r : OwN C l E0 ts A0 (i + 1) (c.put (fun y => .pointer (some ⟨b, q + o, none⟩)) (fun _ => True)) os ps K) (h : ∀ y, evalE (envN l E0 p i c y) x = some (.pointer (some ⟨b, q, none⟩)) := by intro y; rfl)
  (hc : consT ts i = [] := by rfl) (hr : readT ts i = [] := by rfl) (hp : prodT ts i = [] := by rfl) : OwN C l E0 ts A0 i c (⟨d, .fieldAddr s x fd, ty, pos, aft, none⟩ :: os) (p :: ps) K :=
 nV (fun y hA L => v_fieldAddr ht (h y)) r hc hr hp (fun _ _ => rfl) (fun _ _ _ => rfl)
theorem wN {id : Nat} (ps : List Par) (ts : List Tok) (A : List HProp) (hm : C.P.follows .mixedOrders = true) (how : OwN C l E0 ts A 0 ⟨[], []⟩ l ps (fun c => ∀ y, (∀ j, j < l.length → KnN c l.length j y) → Q .normal (finN l l.length c y l.length E0) (atY (endT ts) y ++ A)))
  (hB : netB C l ps ts = true := by kernel_rfl) (hps : ps.length = l.length := by rfl) (h0 : ∀ y, L.Perm (atY (beginT ts) y ++ A) := by exact fun _ => .refl _) (hl : LocT ps ts := by repeat first | exact locT_nil | refine locT_0 _ ?_ | refine locT_1 _ rfl (by intro y y2 h; rfl) ?_) (hX : ∀ ch E L, C.X ch L → Q (.panic ch) E L := by exact fun _ _ _ h => h) : Wp C (.region id l.toArray true) Q E0 L :=
 w_net ps ts A hm hB hps h0 hl how hX
end
section
variable {C : Ctx} {Q : QT} {E : Env} {L L' : List HProp} {ops : Array Oper} {rest : List Oper} {d : Nat} {ty : TypeId} {pos : String} {aft : Array Edge} {op : Op} {v : Value}
theorem oV (h : OpV C op ty E L v L') (k : Ops C ops rest Q ((d, v) :: E) L') (hd : Nat.blt d C.n = true := by rfl) : Ops C ops (⟨some d, op, ty, pos, aft, none⟩ :: rest) Q E L := o_val h hd k
theorem oR (h : OpV C op ty E L v L) (k : OpsR C ops rest Q ((d, v) :: E) L) (hd : Nat.blt d C.n = true := by rfl) (hk : roK op v = true := by rfl) : OpsR C ops (⟨some d, op, ty, pos, aft, none⟩ :: rest) Q E L := Rg.o_val h hd hk k
end
abbrev pz (m : Nat) (d s : List Nat) : Par := ⟨bitN m, d, s, 0, 0⟩
theorem all27 : True := by
 have := @nV
 have := @nR
 have := @nE
 have := @ln
 have := @lc1
 have := @lc2
 have := @lc3
 have := @lc4
 have := @lc5
 have := @rz1
 have := @rz2
 have := @rz3
 have := @rz4
 have := @rz5
 have := @wI
 have := @xI
 have := @xL
 have := @nM
 have := @nA
 have := @nN
 have := @nG
 have := @wN
 have := @oV
 have := @oR
 trivial
end Go.Sl

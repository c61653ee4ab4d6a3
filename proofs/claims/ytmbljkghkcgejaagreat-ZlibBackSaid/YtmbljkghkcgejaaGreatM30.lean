/- Walks of functions that the law reaches, and what they lean on; no conditions. -/
import Derived.Test.YtmbljkghkcgejaaGreatSlNet3
import Derived.Test.YtmbljkghkcgejaaGreatSl19
import Derived.Test.YtmbljkghkcgejaaGreatSl23
set_option linter.unusedVariables false
set_option linter.unusedSimpArgs false
set_option maxRecDepth 100000
namespace Go.Sl
section
variable {C : Ctx} {E0 : Env} {Q : QT} {L : List ae} {l : List Oper} {ts : List aZ} {i : Nat} {c : gS} {op : Op} {os : List Oper} {ps : List et} {f : Yv → Value} {K : gS → Prop} {A0 : List ae} {p : et} {d : Option Nat} {ty : TypeId} {pos : String} {aft : Array Edge} {o : Oper}
theorem nV (h : ∀ y, (∀ j ∈ p.gq, dj c i j y) → ∀ L, bX C op ty (kO l E0 p i c y) L (f y) L) (r : gX C l E0 ts A0 (i + 1) (c.put f (fun _ => True)) os ps K)
  (hc : ie ts i = [] := by rfl) (hr : e9 ts i = [] := by rfl) (hp : gT ts i = [] := by rfl) (hf : ∀ y v, f (eu y i v) = f y := by intros; rfl) (hl : Loc i p f := by intro y y2 h; rfl) : gX C l E0 ts A0 i c (⟨d, op, ty, pos, aft, none⟩ :: os) (p :: ps) K :=
 aR _ (fun y => rfl) hc hr hp (fun y hA L => cu (h y hA L) ⟨rfl, rfl⟩) hf hl r
theorem nR (h : ∀ y A, (∀ j ∈ p.gq, dj c i j y) → bX C op ty (kO l E0 p i c y) (eQ (e9 ts i) y ++ A) (f y) (eQ (e9 ts i) y ++ A)) (r : gX C l E0 ts A0 (i + 1) (c.put f (fun _ => True)) os ps K)
  (hc : ie ts i = [] := by rfl) (hp : gT ts i = [] := by rfl) (hf : ∀ y v, f (eu y i v) = f y := by intros; rfl) (hl : Loc i p f := by intro y y2 h; rfl) : gX C l E0 ts A0 i c (⟨d, op, ty, pos, aft, none⟩ :: os) (p :: ps) K :=
 gn _ _ (fun y => rfl) hc (fun y => rfl) hp (fun y A hA => cu (h y A hA) ⟨rfl, rfl⟩) hf hl r
theorem nE (h : ∀ y A, (∀ j ∈ p.gq, dj c i j y) → Step C l.toArray o (kO l E0 p i c y) (eQ (ie ts i) y ++ (eQ (e9 ts i) y ++ A)) (fun v' L' => v' = f y ∧ L'.Perm (eQ (gT ts i) y ++ (eQ (e9 ts i) y ++ A)))) (r : gX C l E0 ts A0 (i + 1) (c.put f (fun _ => True)) os ps K)
  (hf : ∀ y v, f (eu y i v) = f y := by intros; rfl) (hM : ∀ y v, eQ (gT ts i) (eu y i v) = eQ (gT ts i) y := by intros; rfl) (hl : Loc i p f := by intro y y2 h; rfl) : gX C l E0 ts A0 i c (o :: os) (p :: ps) K :=
 Ho _ _ _ _ (fun y => rfl) (fun y => rfl) (fun y => rfl) (fun y => rfl) h hf hM hl r
end
def Mp (m : Nat) : List Nat := (List.range 96).filter fun k => (m / 2 ^ k) % 2 == 1
end Go.Sl
namespace Go.Sl
theorem ln {E : Env} : Le [] E := .nil _
theorem fO {E E2 : Env} {d0 : Nat} {v0 : Value} (l : Le E2 E) (h0 : E.get d0 = some v0 := by rfl) : Le ((d0, v0) :: E2) E := .cons h0 l
theorem kr {E E2 : Env} {d0 : Nat} {v0 : Value} {d1 : Nat} {v1 : Value} (l : Le E2 E) (h0 : E.get d0 = some v0 := by rfl) (h1 : E.get d1 = some v1 := by rfl) : Le ((d0, v0) :: (d1, v1) :: E2) E := .cons h0 (.cons h1 l)
theorem fL {E E2 : Env} {d0 : Nat} {v0 : Value} {d1 : Nat} {v1 : Value} {d2 : Nat} {v2 : Value} (l : Le E2 E) (h0 : E.get d0 = some v0 := by rfl) (h1 : E.get d1 = some v1 := by rfl) (h2 : E.get d2 = some v2 := by rfl) : Le ((d0, v0) :: (d1, v1) :: (d2, v2) :: E2) E := .cons h0 (.cons h1 (.cons h2 l))
theorem dI {E E2 : Env} {d0 : Nat} {v0 : Value} {d1 : Nat} {v1 : Value} {d2 : Nat} {v2 : Value} {d3 : Nat} {v3 : Value} (l : Le E2 E) (h0 : E.get d0 = some v0 := by rfl) (h1 : E.get d1 = some v1 := by rfl) (h2 : E.get d2 = some v2 := by rfl) (h3 : E.get d3 = some v3 := by rfl) : Le ((d0, v0) :: (d1, v1) :: (d2, v2) :: (d3, v3) :: E2) E := .cons h0 (.cons h1 (.cons h2 (.cons h3 l)))
theorem aX {E E2 : Env} {d0 : Nat} {v0 : Value} {d1 : Nat} {v1 : Value} {d2 : Nat} {v2 : Value} {d3 : Nat} {v3 : Value} {d4 : Nat} {v4 : Value} (l : Le E2 E) (h0 : E.get d0 = some v0 := by rfl) (h1 : E.get d1 = some v1 := by rfl) (h2 : E.get d2 = some v2 := by rfl) (h3 : E.get d3 = some v3 := by rfl) (h4 : E.get d4 = some v4 := by rfl) : Le ((d0, v0) :: (d1, v1) :: (d2, v2) :: (d3, v3) :: (d4, v4) :: E2) E := .cons h0 (.cons h1 (.cons h2 (.cons h3 (.cons h4 l))))
theorem au {A0 : ae} {M P F : List ae} (h : fy M P F) : fy (A0 :: M) (A0 :: P) F := .cons dg h
theorem aE {A0 A1 : ae} {M P F : List ae} (h : fy M P F) : fy (A0 :: A1 :: M) (A0 :: A1 :: P) F := .cons dg (.cons dg h)
theorem dU {A0 A1 A2 : ae} {M P F : List ae} (h : fy M P F) : fy (A0 :: A1 :: A2 :: M) (A0 :: A1 :: A2 :: P) F := .cons dg (.cons dg (.cons dg h))
theorem gA {A0 A1 A2 A3 : ae} {M P F : List ae} (h : fy M P F) : fy (A0 :: A1 :: A2 :: A3 :: M) (A0 :: A1 :: A2 :: A3 :: P) F := .cons dg (.cons dg (.cons dg (.cons dg h)))
theorem lF {A0 A1 A2 A3 A4 : ae} {M P F : List ae} (h : fy M P F) : fy (A0 :: A1 :: A2 :: A3 :: A4 :: M) (A0 :: A1 :: A2 :: A3 :: A4 :: P) F := .cons dg (.cons dg (.cons dg (.cons dg (.cons dg h))))
theorem wI {n : Int} (h1 : -9223372036854775808 ≤ n := by omega) (h2 : n ≤ 9223372036854775807 := by omega) : IntKind.i64.wrap n = n := gQ h1 h2
section
variable {C : Ctx} {Q : QT} {E E0 : Env} {L : List ae} {ty : TypeId}
theorem xI {α : Type} {c : Ec α} {x ix : Operand} {t by_ n cap : Nat} {p : Option Addr} {k : IntKind} {i : Int} {l : List α} (ht : sliceB C.P t = some (c.T, c.sz, by_)) (H : Has C.w0 L c p n l) (h : ay E x = some (.slice p n cap) := by rfl) (hi : ay E ix = some (.int k i) := by rfl) (h0 : 0 ≤ i := by omega) (hlt : i < n := by omega) :
  bX C (.indexAddr t x ix) ty E L (.pointer (some ⟨cK p, pH p + i.toNat * c.sz, none⟩)) L := oA ht h hi H h0 hlt
theorem xL {α : Type} {c : Ec α} {v : Value} {x : Operand} {t n : Nat} {p : Option Addr} {i : Int} {l : List α} (hs : cZ C.P t = true) (H : Has C.w0 L c p n l) (hx : ay E x = some (.pointer (some ⟨cK p, pH p + i.toNat * c.sz, none⟩)) := by rfl) (h0 : 0 ≤ i := by omega) (hlt : i < n := by omega) (hf : Nat.blt 0 c.sz = true := by rfl) (hv : (c.e (c.g l i))[0]? = some v := by rfl) : bX C (.load t x) ty E L v L := ye hs hx H h0 hlt hf hv
variable {l : List Oper} {ts : List aZ} {i : Nat} {c : gS} {op : Op} {os : List Oper} {ps : List et} {f : Yv → Value} {K : gS → Prop} {A0 : List ae} {p : et} {d : Option Nat} {pos : String} {aft : Array Edge} {o : Oper} {x : Operand}
theorem nM (r : gX C l E0 ts A0 (i + 1) (c.put f (fun _ => True)) os ps K) (h : ∀ y, ay (kO l E0 p i c y) x = some (f y) := by intro y; rfl)
  (hc : ie ts i = [] := by rfl) (hr : e9 ts i = [] := by rfl) (hp : gT ts i = [] := by rfl) (hf : ∀ y v, f (eu y i v) = f y := by intros; rfl) (hl : Loc i p f := by intro y y2 h; rfl) : gX C l E0 ts A0 i c (⟨d, .move x, ty, pos, aft, none⟩ :: os) (p :: ps) K :=
 nV (fun y hA L => aB (h y)) r hc hr hp hf hl
theorem nA (r : gX C l E0 ts A0 (i + 1) (c.put f (fun _ => True)) os ps K) (h : ∀ y, ay (kO l E0 p i c y) x = some (f y) := by intro y; rfl)
  (hc : ie ts i = [] := by rfl) (hr : e9 ts i = [] := by rfl) (hp : gT ts i = [] := by rfl) (hf : ∀ y v, f (eu y i v) = f y := by intros; rfl) (hl : Loc i p f := by intro y y2 h; rfl) : gX C l E0 ts A0 i c (⟨d, .assign x, ty, pos, aft, none⟩ :: os) (p :: ps) K :=
 nV (fun y hA L => cE (h y)) r hc hr hp hf hl
theorem nN {q : Yv → Addr} (r : gX C l E0 ts A0 (i + 1) (c.put (fun y => .pointer (some (q y))) (fun _ => True)) os ps K) (h : ∀ y, ay (kO l E0 p i c y) x = some (.pointer (some (q y))) := by intro y; rfl)
  (hc : ie ts i = [] := by rfl) (hr : e9 ts i = [] := by rfl) (hp : gT ts i = [] := by rfl) (hf : ∀ y v, Value.pointer (some (q (eu y i v))) = .pointer (some (q y)) := by intros; rfl) (hl : Loc i p (fun y => Value.pointer (some (q y))) := by intro y y2 h; rfl) : gX C l E0 ts A0 i c (⟨d, .nilCheck x, ty, pos, aft, none⟩ :: os) (p :: ps) K :=
 nV (fun y hA L => Bn (h y)) r hc hr hp hf hl
theorem nG {s fd o b q : Nat} (ht : bK C.P s fd = some o) (r : gX C l E0 ts A0 (i + 1) (c.put (fun y => .pointer (some ⟨b, q + o, none⟩)) (fun _ => True)) os ps K) (h : ∀ y, ay (kO l E0 p i c y) x = some (.pointer (some ⟨b, q, none⟩)) := by intro y; rfl)
  (hc : ie ts i = [] := by rfl) (hr : e9 ts i = [] := by rfl) (hp : gT ts i = [] := by rfl) : gX C l E0 ts A0 i c (⟨d, .fieldAddr s x fd, ty, pos, aft, none⟩ :: os) (p :: ps) K :=
 nV (fun y hA L => iD ht (h y)) r hc hr hp (fun _ _ => rfl) (fun _ _ _ => rfl)
theorem wN {id : Nat} (ps : List et) (ts : List aZ) (A : List ae) (hm : C.P.follows .mixedOrders = true) (how : gX C l E0 ts A 0 ⟨[], []⟩ l ps (fun c => ∀ y, (∀ j, j < l.length → dj c l.length j y) → Q .normal (sx l l.length c y l.length E0) (eQ (tU ts) y ++ A)))
  (hB : wJ C l ps ts = true := by kernel_rfl) (hps : ps.length = l.length := by rfl) (h0 : ∀ y, L.Perm (eQ (p9 ts) y ++ A) := by exact fun _ => .refl _) (hl : sf ps ts := by repeat first | exact jb | refine dV _ ?_ | refine ea _ rfl (by intro y y2 h; rfl) ?_) (hX : ∀ ch E L, C.X ch L → Q (.panic ch) E L := by exact fun _ _ _ h => h) : Wp C (.region id l.toArray true) Q E0 L :=
 mL ps ts A hm hB hps h0 hl how hX
end
section
variable {C : Ctx} {Q : QT} {E : Env} {L L' : List ae} {ops : Array Oper} {rest : List Oper} {d : Nat} {ty : TypeId} {pos : String} {aft : Array Edge} {op : Op} {v : Value}
theorem oV (h : bX C op ty E L v L') (k : dk C ops rest Q ((d, v) :: E) L') (hd : Nat.blt d C.n = true := by rfl) : dk C ops (⟨some d, op, ty, pos, aft, none⟩ :: rest) Q E L := td h hd k
theorem oR (h : bX C op ty E L v L) (k : fx C ops rest Q ((d, v) :: E) L) (hd : Nat.blt d C.n = true := by rfl) (hk : Gw op v = true := by rfl) : fx C ops (⟨some d, op, ty, pos, aft, none⟩ :: rest) Q E L := Rg.td h hd hk k
end
abbrev pz (m : Nat) (d s : List Nat) : et := ⟨Mp m, d, s, 0, 0⟩
theorem N1 : True := by
 have := @nV
 have := @nR
 have := @nE
 have := @ln
 have := @fO
 have := @kr
 have := @fL
 have := @dI
 have := @aX
 have := @au
 have := @aE
 have := @dU
 have := @gA
 have := @lF
 have := @wI
 have := @xI
 have := @xL
 have := @nM
 have := @nA
 have := @nN
 have := @nG
 have := @wN
 have := @oV
 have := @oR
 trivial
end Go.Sl

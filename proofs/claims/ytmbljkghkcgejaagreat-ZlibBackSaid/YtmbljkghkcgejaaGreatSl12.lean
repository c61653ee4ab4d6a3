/- Walks of functions that the law reaches, and what they lean on; no conditions. -/
import Derived.Test.YtmbljkghkcgejaaGreatSl11
set_option linter.unusedVariables false
set_option linter.unusedSimpArgs false
set_option maxRecDepth 100000
namespace Go.Sl
open Go.RowKit (Below)
section
variable {C : Ctx} {Q : QT} {E : Env} {L L' F : List ae} {ops : Array Oper} {rest : List Oper} {d : Nat} {ty : TypeId} {pos : String} {aft : Array Edge} {op : Op} {v : Value} {α : Type} {c : Ec α}
theorem ry {x y : Operand} {t by_ : Nat} {k1 k2 : IntKind} {i1 i2 : Int} {zs : List Value} (n m : Nat) (c : Ec α) (e1 : i1 = (n : Int)) (e2 : i2 = (m : Int)) (ht : sliceB C.P t = some (c.T, c.sz, by_)) (hz : dc C.P c.T = some zs) (hze : zs = c.e c.d) (hsz : Nat.ble 1 c.sz = true)
  (hx : ay E x = some (.int k1 i1)) (hy : ay E y = some (.int k2 i2)) (hnc : n ≤ m) (hb : m * by_ ≤ 281474976710656) (hby : Nat.ble 1 by_ = true) (hd : Nat.blt d C.n = true)
  (k : ∀ b, dk C ops rest Q ((d, .slice (some ⟨b, 0, none⟩) n m) :: E) (Row c (some ⟨b, 0, none⟩) n m (List.replicate n c.d) :: L)) : dk C ops (⟨some d, .makeSlice t x y, ty, pos, aft, none⟩ :: rest) Q E L := by
 subst e1
 subst e2
 refine JV c ht hz hze hsz hx hy (by omega) (by omega) ?_ hby hd k
 have : ((m * by_ : Nat) : Int) = (m : Int) * by_ := Int.natCast_mul _ _
 omega
theorem Has.sub {w0 : World} {p : Option Addr} {n : Nat} {l : List α} (H : Has w0 L c p n l) (a b m : Nat) (h1 : a ≤ b) (h2 : b ≤ n) (h3 : b ≤ m) : Has w0 L c (gK p a m c.sz) (b - a) ((l.drop a).take (b - a)) := by
 obtain ⟨R, hm, hR⟩ := H
 exact ⟨R, hm, fun h hh => (hR h hh).sub a b m h1 h2 h3⟩
theorem Has.take {w0 : World} {p : Option Addr} {n : Nat} {l : List α} (H : Has w0 L c p n l) (b : Nat) (h2 : b ≤ n) : Has w0 L c p b (l.take b) := by
 have := H.sub 0 b b (Nat.zero_le _) h2 (Nat.le_refl _)
 rwa [nL, Nat.sub_zero, List.drop_zero] at this
end
end Go.Sl

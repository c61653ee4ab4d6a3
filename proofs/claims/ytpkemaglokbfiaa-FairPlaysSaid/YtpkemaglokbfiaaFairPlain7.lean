/-
  The document's own Fair, as memory: three rows.
-/
import Derived.Test.YtpkemaglokbfiaaFairPlain6
import Derived.Test.YtpkemaglokbfiaaSlNet3
import Derived.Test.YtpkemaglokbfiaaSl13
namespace Go.FairP
open Go.Sl
set_option linter.unusedVariables false
abbrev I3 : Ec Int := ecI 3 .i64
structure Sv3 where
  p1 : Option Addr
  c1 : Nat
  p2 : Option Addr
  c2 : Nat
  p3 : Option Addr
  c3 : Nat
def RF (b : Nat) (l : List Mb) : HProp := fun w0 h => ∃ i : Sv3, True ∧ sats w0 [Cel b 46 [.slice i.p1 l.length i.c1, .slice i.p2 l.length i.c2, .slice i.p3 l.length i.c3], Row I3 i.p1 l.length i.c1 (l.map Mb.who), Row I3 i.p2 l.length i.c2 (l.map Mb.q), Row I3 i.p3 l.length i.c3 (l.map Mb.c)] h
theorem rf_close {b n c1 c2 c3 : Nat} {p1 p2 p3 : Option Addr} {a1 a2 a3 : List Int} {l : List Mb} {w0 : World} {h : Hp} (hn : n = l.length) (e1 : a1 = l.map Mb.who) (e2 : a2 = l.map Mb.q) (e3 : a3 = l.map Mb.c)
    (hh : sats w0 [Cel b 46 [.slice p1 n c1, .slice p2 n c2, .slice p3 n c3], Row I3 p1 n c1 a1, Row I3 p2 n c2 a2, Row I3 p3 n c3 a3] h) : RF b l w0 h := by
  subst hn; subst e1; subst e2; subst e3; exact ⟨⟨p1, c1, p2, c2, p3, c3⟩, trivial, hh⟩
theorem g_who {l : List Mb} {k : Nat} (h : k < l.length) : I3.g (l.map Mb.who) (k : Int) = l[k].who := by rw [Ec.g_nat _ (by simpa using h)]; simp
theorem g_q {l : List Mb} {k : Nat} (h : k < l.length) : I3.g (l.map Mb.q) (k : Int) = l[k].q := by rw [Ec.g_nat _ (by simpa using h)]; simp
theorem g_c {l : List Mb} {k : Nat} (h : k < l.length) : I3.g (l.map Mb.c) (k : Int) = l[k].c := by rw [Ec.g_nat _ (by simpa using h)]; simp
theorem turn_list {m : Mb} {r : List Mb} {f : Mb → Int} (x : Int) (n : Nat) (hn : n = (m :: r).length - 1) : (((m :: r).map f).drop 1).take n ++ [x] = r.map f ++ [x] := by
  subst hn
  rw [List.take_of_length_le (by simp)]
  simp
theorem erase_list {l : List Mb} {f : Mb → Int} (i n : Nat) (h : i < l.length) (hn : n = l.length - (i + 1)) : ((l.map f).take i) ++ (((l.map f).drop (i + 1)).take n) = (l.eraseIdx i).map f := by
  subst hn
  rw [List.take_of_length_le (l := (l.map f).drop (i + 1)) (by simp), List.eraseIdx_eq_take_drop_succ]
  simp [List.map_take, List.map_drop]
end Go.FairP

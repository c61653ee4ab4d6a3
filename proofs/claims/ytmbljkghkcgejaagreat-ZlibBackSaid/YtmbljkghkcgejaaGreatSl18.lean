/- Walks of functions that the law reaches, and what they lean on; no conditions. -/
import Derived.Test.YtmbljkghkcgejaaGreatSl17
set_option linter.unusedVariables false
set_option linter.unusedSimpArgs false
set_option maxRecDepth 100000
namespace Go.Sl
def CA (pre : List Value) (k : IntKind) (xs : List Int) (post : List Value) : List Value := pre ++ (ints k xs ++ post)
theorem KA {pre post : List Value} {k : IntKind} {xs : List Int} {j : Nat} (h : j < xs.length) : (CA pre k xs post)[pre.length + j]? = some (.int k (xs.getD j 0)) := by
 unfold CA
 rw [List.getElem?_append_right (by omega), show pre.length + j - pre.length = j by omega, List.getElem?_append_left (by simpa [ints] using h), Bu h]
theorem H2 {pre post : List Value} {k : IntKind} {xs : List Int} {n i : Nat} (h : xs.length = n) : (CA pre k xs post)[pre.length + n + i]? = post[i]? := by
 unfold CA
 rw [List.getElem?_append_right (by omega), List.getElem?_append_right (by simp [ints]; omega)]
 congr 1
 simp [ints]; omega
theorem I0 {pre post : List Value} {k : IntKind} {xs : List Int} {j : Nat} {m : Int} (h : j < xs.length) : (CA pre k xs post).set (pre.length + j) (.int k m) = CA pre k (xs.set j m) post := by
 unfold CA
 rw [List.set_append_right _ _ (by omega), show pre.length + j - pre.length = j by omega, List.set_append_left _ _ (by simpa [ints] using h), ints_set]
theorem Hc {pre post : List Value} {k : IntKind} {xs : List Int} {n i : Nat} {v : Value} (h : xs.length = n) : (CA pre k xs post).set (pre.length + n + i) v = CA pre k xs (post.set i v) := by
 unfold CA
 rw [List.set_append_right _ _ (by omega), List.set_append_right _ _ (by simp [ints]; omega)]
 congr 3
 simp [ints]; omega
theorem BR (pre post : List Value) (k : IntKind) (xs : List Int) : (CA pre k xs post).length = pre.length + xs.length + post.length := by
 unfold CA; simp [ints]; omega
section
variable {C : Ctx} {E : Env} {L L' : List ae} {ty : TypeId} {v : Value} {pre post post' : List Value} {k : IntKind} {xs : List Int}
theorem ji {x : Operand} {t b q T : Nat} (i : Int) (hs : cZ C.P t = true) (hx : ay E x = some (.pointer (some ⟨b, q, none⟩))) (hm : av b T (CA pre k xs post) ∈ L) (hq : q = pre.length + i.toNat) (h0 : 0 ≤ i) (hlt : i < xs.length) : bX C (.load t x) ty E L (.int k (xs.getD i.toNat 0)) L :=
 ag hs hx hm (by rw [hq, KA (by omega)])
theorem gl {x : Operand} {t b q T n : Nat} (i : Nat) (hs : cZ C.P t = true) (hx : ay E x = some (.pointer (some ⟨b, q, none⟩))) (hm : av b T (CA pre k xs post) ∈ L) (hn : xs.length = n) (hq : q = pre.length + n + i) (hv : post[i]? = some v) : bX C (.load t x) ty E L v L :=
 ag hs hx hm (by rw [hq, H2 hn, hv])
theorem BS {x : Operand} {t b q T n : Nat} (hs : jR C.P t = some n) (hx : ay E x = some (.pointer (some ⟨b, q, none⟩))) (hm : av b T (CA pre k xs post) ∈ L) (hn : xs.length = n) (hq : q = pre.length) : bX C (.load t x) ty E L (.agg (ints k xs).toArray) L :=
 nW hs hx hm (by simp [ints, hn]) (by
  subst hq
  unfold CA
  rw [List.drop_left, List.take_left' (by simp [ints, hn])])
theorem ug {x y : Operand} {t b q T : Nat} {m : Int} (i : Int) (hs : cZ C.P t = true) (hx : ay E x = some (.pointer (some ⟨b, q, none⟩))) (hy : ay E y = some (.int k m)) (hr : ks L (av b T (CA pre k xs post)) (av b T (CA pre k (xs.set i.toNat m) post)) L') (hq : q = pre.length + i.toNat) (h0 : 0 ≤ i) (hlt : i < xs.length) : bX C (.store t x y) ty E L undef L' :=
 bV hs hx hy rfl hr (by rw [BR]; omega) (by rw [hq, I0 (by omega)])
theorem kM {x y : Operand} {t b q T n : Nat} {u : Value} (i : Nat) (hs : cZ C.P t = true) (hx : ay E x = some (.pointer (some ⟨b, q, none⟩))) (hy : ay E y = some u) (h1 : u.oneCell' = true) (hr : ks L (av b T (CA pre k xs post)) (av b T (CA pre k xs post')) L') (hn : xs.length = n) (hq : q = pre.length + n + i) (hi : i < post.length) (hv : post.set i u = post') : bX C (.store t x y) ty E L undef L' :=
 bV hs hx hy h1 hr (by rw [BR]; omega) (by rw [hq, Hc hn, hv])
end
theorem D9 (k : IntKind) (xs : List Int) : (Value.agg (ints k xs).toArray).cells.toList = CA [] k xs [] := by simp [Value.cells, CA]
end Go.Sl

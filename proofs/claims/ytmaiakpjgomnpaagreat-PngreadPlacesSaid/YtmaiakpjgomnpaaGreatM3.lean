/- Walks of functions that the law reaches, and what they lean on; no conditions. -/
import Derived.Test.YtmaiakpjgomnpaaGreatM2
import Derived.KernelRfl
set_option linter.unusedVariables false
set_option linter.unusedSimpArgs false
set_option maxRecDepth 100000
namespace Go.ad
open Go.af Go.ae
structure St where
  at_ : Nat
  out : List Int
  kind : Int
  left : Nat
  last : Bool
  lits : List Int
  dD : List Int
  ax : Nat
  bA : Nat
  ended : Bool
def fb : List Int := List.replicate 144 8 ++ List.replicate 112 9 ++ List.replicate 24 7 ++ List.replicate 8 8
def kz : List Int := List.replicate 32 5
def sym (ls B : List Int) (a : Nat) : Except Int (Int × Nat) := match tk ls B a with
  | .vb n s => .ok (s, a + n)
  | .short _ => .error 2
  | .none_ _ => .error 4
def cR (a : Nat) : Nat := (a + 7) / 8 * 8
def lx : List Int := [16, 17, 18, 0, 8, 7, 9, 6, 10, 5, 11, 4, 12, 3, 13, 2, 14, 1, 15]
def gH (B : List Int) (a : Nat) : Nat → List Int
  | 0 => List.replicate 19 0
  | i + 1 => (gH B a i).set (lx.getD i 0).toNat (aK B (a + 3 * i) 3)
def oJ (s : Int) : Nat := if s = 16 then 2 else if s = 17 then 3 else 7
def AW (s : Int) : Int := if s = 18 then 11 else 3
def Sb (s : Int) (l : List Int) : Int := if s = 16 then l.getD (l.length - 1) 0 else 0
def rep (B : List Int) (s : Int) (l : List Int) (a : Nat) : Except Int (Int × Int × Nat) :=
  if s < 16 then .ok (s, 1, a) else if 8 * B.length < a + oJ s then .error 2 else if s = 16 ∧ l = [] then .error 4 else .ok (Sb s l, AW s + aK B a (oJ s), a + oJ s)
def jT (B c l : List Int) (a : Nat) : Except Int (List Int × Nat) := match sym c B a with
  | .error e => .error e
  | .ok (s, a) => match rep B s l a with
    | .error e => .error e
    | .ok (x, n, a) => .ok (l ++ List.replicate n.toNat x, a)
def eB (B c : List Int) (tot : Nat) : Nat → List Int → Nat → Except Int (List Int × Nat)
  | 0, l, a => .ok (l, a)
  | f + 1, l, a => if l.length < tot then (match jT B c l a with
    | .error e => .error e
    | .ok (l', a') => if l'.length ≤ tot then eB B c tot f l' a' else .error 4) else .ok (l, a)
def hL (B : List Int) (a : Nat) : Nat := 257 + (aK B a 5).toNat
def hD (B : List Int) (a : Nat) : Nat := 1 + (aK B (a + 5) 5).toNat
def hC (B : List Int) (a : Nat) : Nat := 4 + (aK B (a + 10) 4).toNat
def told (B : List Int) (a : Nat) : Except Int (Nat × List Int × List Int) :=
  if 8 * B.length < a + 14 then .error 2 else
  if ¬ (hL B a ≤ 286 ∧ hD B a ≤ 30) then .error 4 else
  if 8 * B.length < a + 14 + 3 * hC B a then .error 2 else
  if a8 (gH B (a + 14) (hC B a)) ≠ 0 then .error 4 else
  match eB B (gH B (a + 14) (hC B a)) (hL B a + hD B a) (hL B a + hD B a) [] (a + 14 + 3 * hC B a) with
  | .error e => .error e
  | .ok (l, a') => if a8 (l.take (hL B a)) ≠ 0 ∨ a8 (l.drop (hL B a)) ≠ 0 ∨ l.getD 256 0 = 0 then .error 4 else .ok (a', l.take (hL B a), l.drop (hL B a))
def cG (B : List Int) (s : St) : Except Int St :=
  if 8 * B.length < s.at_ + 3 then .error 2 else
  if aK B (s.at_ + 1) 2 = 0 then
    (if 8 * B.length < cR (s.at_ + 3) + 32 then .error 2 else
     if aK B (cR (s.at_ + 3)) 16 = 65535 - aK B (cR (s.at_ + 3) + 16) 16 then .ok { s with at_ := cR (s.at_ + 3) + 32, kind := 0, left := (aK B (cR (s.at_ + 3)) 16).toNat, last := decide (aK B s.at_ 1 = 1) } else .error 4) else
  if aK B (s.at_ + 1) 2 = 1 then .ok { s with at_ := s.at_ + 3, kind := 1, last := decide (aK B s.at_ 1 = 1), lits := fb, dD := kz } else
  if aK B (s.at_ + 1) 2 = 2 then (match told B (s.at_ + 3) with
    | .error e => .error e
    | .ok (a, l, d) => .ok { s with at_ := a, kind := 2, last := decide (aK B s.at_ 1 = 1), lits := l, dD := d }) else .error 4
def o0 (s : Int) : Int := if s < 8 then 3 + s else if s = 28 then 258 else 3 + (4 + s % 4) * 2 ^ (s / 4 - 1).toNat
def mE (s : Int) : Nat := if s < 8 ∨ s = 28 then 0 else (s / 4 - 1).toNat
def te (d : Int) : Int := if d < 4 then 1 + d else 1 + (2 + d % 2) * 2 ^ (d / 2 - 1).toNat
def mT (d : Int) : Nat := if d < 4 then 0 else (d / 2 - 1).toNat
def dU (bV : Int) (s : St) (y : Int) : Except Int St := if (s.out.length : Int) < bV then .ok { s with out := s.out ++ [y] } else .error 6
def dV (B : List Int) (bV : Int) (s : St) : Except Int St := match sym s.lits B s.at_ with
  | .error e => .error e
  | .ok (y, a) =>
    if y < 256 then dU bV { s with at_ := a } y else
    if y = 256 then .ok { s with at_ := a, kind := -1, ended := s.last } else
    if 286 ≤ y then .error 4 else
    if 8 * B.length < a + mE (y - 257) then .error 2 else
    match sym s.dD B (a + mE (y - 257)) with
    | .error e => .error e
    | .ok (d, a3) => if 30 ≤ d then .error 4 else if 8 * B.length < a3 + mT d then .error 2 else
      if te d + aK B a3 (mT d) ≤ s.out.length then .ok { s with at_ := a3 + mT d, ax := (o0 (y - 257) + aK B a (mE (y - 257))).toNat, bA := (te d + aK B a3 (mT d)).toNat } else .error 4
def one (B : List Int) (bV : Int) (s : St) : Except Int St :=
  if 0 < s.ax then dU bV { s with ax := s.ax - 1 } (s.out.getD (s.out.length - s.bA) 0) else
  if s.kind = -1 then cG B s else
  if s.kind ≠ 0 then dV B bV s else
  if s.left = 0 then .ok { s with kind := -1, ended := s.last } else
  if 8 * B.length < s.at_ + 8 then .error 2 else dU bV { s with at_ := s.at_ + 8, left := s.left - 1 } (aK B s.at_ 8)
def start : St := ⟨0, [], -1, 0, false, [], [], 0, 0, false⟩
abbrev Oc := Except Int (List Int × Nat)
inductive jb (B : List Int) (bV : Int) : St → Oc → Prop
  | done {s : St} : s.ended = true → jb B bV s (.ok (s.out, (s.at_ + 7) / 8))
  | step {s s' : St} {o : Oc} : s.ended = false → one B bV s = .ok s' → jb B bV s' o → jb B bV s o
  | fail {s : St} {e : Int} : s.ended = false → one B bV s = .error e → jb B bV s (.error e)
theorem jb.Fv {B : List Int} {bV : Int} {s : St} {o : Oc} (h : jb B bV s o) : ∀ {o' : Oc}, jb B bV s o' → o = o' := by
  induction h with
  | done h1 => intro o' h; cases h with
    | done _ => rfl
    | step h2 _ _ => rw [h1] at h2; cases h2
    | fail h2 _ => rw [h1] at h2; cases h2
  | step h1 h2 h3 ih => intro o' h; cases h with
    | done h4 => rw [h1] at h4; cases h4
    | step _ h5 h6 => rw [h2] at h5; cases h5; exact ih h6
    | fail _ h5 => rw [h2] at h5; cases h5
  | fail h1 h2 => intro o' h; cases h with
    | done h4 => rw [h1] at h4; cases h4
    | step _ h5 h6 => rw [h2] at h5; cases h5
    | fail _ h5 => rw [h2] at h5; cases h5; rfl
def gm (B : List Int) (bV : Int) (s s' : St) : Prop := ∀ o, jb B bV s' o → jb B bV s o
theorem gm.refl (B : List Int) (bV : Int) (s : St) : gm B bV s s := fun _ h => h
theorem gm.trans {B : List Int} {bV : Int} {s s' s'' : St} (h : gm B bV s s') (k : gm B bV s' s'') : gm B bV s s'' := fun o r => h o (k o r)
theorem gm.one {B : List Int} {bV : Int} {s s' : St} (h : s.ended = false) (k : one B bV s = .ok s') : gm B bV s s' := fun o r => .step h k r
def im (ls : List Int) : Except Int Unit := if a8 ls = 0 then .ok () else .error 4
section
variable {B l : List Int} {s : Int} {a : Nat}
theorem SF (h : s < 16) : rep B s l a = .ok (s, 1, a) := if_pos h
theorem o5 (h : ¬ s < 16) (hx : 8 * B.length < a + oJ s) : rep B s l a = .error 2 := by unfold rep; rw [if_neg h, if_pos hx]
theorem HO (h : s = 16) (hl : l = []) (hx : ¬ 8 * B.length < a + oJ s) : rep B s l a = .error 4 := by unfold rep; rw [if_neg (by omega), if_neg hx, if_pos ⟨h, hl⟩]
theorem xt (h : ¬ s < 16) (hx : ¬ 8 * B.length < a + oJ s) (hl : ¬ (s = 16 ∧ l = [])) : rep B s l a = .ok (Sb s l, AW s + aK B a (oJ s), a + oJ s) := by unfold rep; rw [if_neg h, if_neg hx, if_neg hl]
end
theorem Be (B : List Int) (a : Nat) : ∀ k, (gH B a k).length = 19
  | 0 => by simp [gH]
  | k + 1 => by simp [gH, Be B a k]
theorem Ad : a8 fb = 0 := by decide +kernel
theorem AZ : a8 kz = 0 := by decide +kernel
def hJ : List (Int × Int) := [(8, 144), (9, 112), (7, 24), (8, 8)]
def gJ : Nat → List Int
  | 0 => []
  | k + 1 => gJ k ++ List.replicate (hJ.getD k (0, 0)).2.toNat (hJ.getD k (0, 0)).1
theorem C0 : gJ 4 = fb := by decide +kernel
theorem LB : ∀ k, k ≤ 4 → (gJ k).length ≤ 288 := by
  intro k hk
  have : k = 0 ∨ k = 1 ∨ k = 2 ∨ k = 3 ∨ k = 4 := by omega
  rcases this with rfl | rfl | rfl | rfl | rfl <;> decide +kernel
theorem Mh {k : Nat} (h : k < 19) : 0 ≤ lx.getD k 0 ∧ lx.getD k 0 < 19 := by
  have : ∀ k, k < 19 → 0 ≤ lx.getD k 0 ∧ lx.getD k 0 < 19 := by decide
  exact this k h
theorem Eg (B : List Int) (a : Nat) : 257 + aK B a 5 = (hL B a : Int) ∧ 1 + aK B (a + 5) 5 = (hD B a : Int) ∧ 4 + aK B (a + 10) 4 = (hC B a : Int) ∧ hL B a ≤ 288 ∧ hD B a ≤ 32 ∧ hC B a ≤ 19 ∧ 4 ≤ hC B a ∧ 257 ≤ hL B a := by
  have h1 := bF B a 5
  have h2 := bF B (a + 5) 5
  have h3 := bF B (a + 10) 4
  unfold hL hD hC
  omega
end Go.ad
namespace Go.ad
open Go.af Go.ae
theorem fH {α : Type} (E : Except Int α) : (∃ e, E = .error e) ∨ ∃ x, E = .ok x := by
  cases E with
  | error e => exact .inl ⟨e, rfl⟩
  | ok x => exact .inr ⟨x, rfl⟩
theorem so {ls B : List Int} {a : Nat} : ∀ {r n n' : Nat} {s : Int}, ly ls B a r n = .vb n' s → n < n' ∧ a + n' ≤ 8 * B.length ∧ (s ∈ ord ls ∨ s = 0) := by
  intro r
  induction r with
  | zero => intro n n' s h; simp [ly] at h
  | succ r ih =>
    intro n n' s h
    simp only [ly] at h
    split at h
    · rename_i h1
      split at h
      · cases h
        refine ⟨by omega, by omega, ?_⟩
        rw [List.getD_eq_getElem?_getD]
        cases hh : (ord ls)[off ls (n + 1) + (acc B a (n + 1) - base ls (n + 1)).toNat]? with
        | none => exact .inr rfl
        | some x => exact .inl (List.mem_of_getElem? hh)
      · have := ih h; exact ⟨by omega, this.2.1, this.2.2⟩
    · cases h
theorem qi {ls B : List Int} {a a' : Nat} {s : Int} (hE : a8 ls = 0) (h0 : 0 < ls.length) (h : sym ls B a = .ok (s, a')) : 0 ≤ s ∧ s < ls.length ∧ a < a' ∧ a' ≤ 8 * B.length := by
  unfold sym at h
  split at h
  · rename_i n s' hs
    cases h
    obtain ⟨h1, h2, h3⟩ := so hs
    have : 0 ≤ s ∧ s < ls.length := by
      rcases h3 with h3 | rfl
      · obtain ⟨k1, k2, _⟩ := (uL (kL hE).1).1 h3
        omega
      · omega
    omega
  · cases h
  · cases h
theorem yf {B l : List Int} {s x n : Int} {a a' : Nat} (ha : a ≤ 8 * B.length) (h : rep B s l a = .ok (x, n, a')) : 1 ≤ n ∧ n < 200 ∧ a ≤ a' ∧ a' ≤ 8 * B.length := by
  unfold rep at h
  split at h
  · cases h; omega
  split at h
  · cases h
  split at h
  · cases h
  cases h
  have hb := bF B a (oJ s)
  have : AW s + aK B a (oJ s) < 200 ∧ 1 ≤ AW s := by
    unfold AW
    unfold oJ at hb ⊢
    by_cases h1 : s = 16
    · rw [if_pos h1] at hb ⊢; rw [if_neg (by omega)]; omega
    · by_cases h2 : s = 17
      · rw [if_neg h1, if_pos h2] at hb ⊢; rw [if_neg (by omega)]; omega
      · rw [if_neg h1, if_neg h2] at hb ⊢; split <;> omega
  omega
section
variable {B c l l' : List Int} {tot f a a' : Nat} {e s x n : Int}
theorem lY (h : tot ≤ l.length) : eB B c tot f l a = .ok (l, a) := by
  cases f with
  | zero => rfl
  | succ f => simp only [eB]; rw [if_neg (by omega)]
theorem nW (h : l.length < tot) (hf : tot ≤ f + l.length) (k : jT B c l a = .error e) : eB B c tot f l a = .error e := by
  obtain ⟨f, rfl⟩ : ∃ g, f = g + 1 := ⟨f - 1, by omega⟩
  simp only [eB]; rw [if_pos h, k]
theorem vt (h : l.length < tot) (hf : tot ≤ f + l.length) (k : jT B c l a = .ok (l', a')) (hl : l'.length ≤ tot) : eB B c tot f l a = eB B c tot (f - 1) l' a' := by
  obtain ⟨f, rfl⟩ : ∃ g, f = g + 1 := ⟨f - 1, by omega⟩
  simp only [eB]; rw [if_pos h, k]; simp only; rw [if_pos hl]; rfl
theorem xv (h : l.length < tot) (hf : tot ≤ f + l.length) (k : jT B c l a = .ok (l', a')) (hl : ¬ l'.length ≤ tot) : eB B c tot f l a = .error 4 := by
  obtain ⟨f, rfl⟩ : ∃ g, f = g + 1 := ⟨f - 1, by omega⟩
  simp only [eB]; rw [if_pos h, k]; simp only; rw [if_neg hl]
theorem sA (h : sym c B a = .error e) : jT B c l a = .error e := by unfold jT; rw [h]
theorem se (h : sym c B a = .ok (s, a')) (k : rep B s l a' = .error e) : jT B c l a = .error e := by unfold jT; rw [h]; simp only; rw [k]
theorem mj {a'' : Nat} (h : sym c B a = .ok (s, a')) (k : rep B s l a' = .ok (x, n, a'')) : jT B c l a = .ok (l ++ List.replicate n.toNat x, a'') := by unfold jT; rw [h]; simp only; rw [k]
end
theorem BH (B c l : List Int) (a : Nat) : (∃ e, sym c B a = .error e) ∨ (∃ s a' e, sym c B a = .ok (s, a') ∧ rep B s l a' = .error e) ∨ (∃ s a' x n a'', sym c B a = .ok (s, a') ∧ rep B s l a' = .ok (x, n, a'')) := by
  rcases fH (sym c B a) with ⟨e, h⟩ | ⟨⟨s, a'⟩, h⟩
  · exact .inl ⟨e, h⟩
  · rcases fH (rep B s l a') with ⟨e, k⟩ | ⟨⟨x, n, a''⟩, k⟩
    · exact .inr (.inl ⟨s, a', e, h, k⟩)
    · exact .inr (.inr ⟨s, a', x, n, a'', h, k⟩)
def bT (B : List Int) (a : Nat) : List Int := gH B (a + 14) (hC B a)
def cx (B : List Int) (a : Nat) : Nat := hL B a + hD B a
def dj (B : List Int) (a : Nat) : Nat := a + 14 + 3 * hC B a
section
variable {B l : List Int} {a a' : Nat} {e : Int}
theorem sP (h : 8 * B.length < a + 14) : told B a = .error 2 := if_pos h
theorem w3 (h : a + 14 ≤ 8 * B.length) (k : ¬ (hL B a ≤ 286 ∧ hD B a ≤ 30)) : told B a = .error 4 := by
  unfold told; rw [if_neg (by omega), if_pos k]
theorem ES (h : a + 14 ≤ 8 * B.length) (k : hL B a ≤ 286 ∧ hD B a ≤ 30) (x : 8 * B.length < dj B a) : told B a = .error 2 := by
  unfold told; rw [if_neg (by omega), if_neg (fun h => h k)]; exact if_pos x
theorem DT (h : a + 14 ≤ 8 * B.length) (k : hL B a ≤ 286 ∧ hD B a ≤ 30) (x : dj B a ≤ 8 * B.length) (y : a8 (bT B a) ≠ 0) : told B a = .error 4 := by
  unfold told; rw [if_neg (by omega), if_neg (fun h => h k), if_neg (by unfold dj at x; omega)]; exact if_pos y
theorem u0 (h : a + 14 ≤ 8 * B.length) (k : hL B a ≤ 286 ∧ hD B a ≤ 30) (x : dj B a ≤ 8 * B.length) (y : a8 (bT B a) = 0) : told B a = (match eB B (bT B a) (cx B a) (cx B a) [] (dj B a) with
    | .error e => .error e
    | .ok (l, a') => if a8 (l.take (hL B a)) ≠ 0 ∨ a8 (l.drop (hL B a)) ≠ 0 ∨ l.getD 256 0 = 0 then .error 4 else .ok (a', l.take (hL B a), l.drop (hL B a))) := by
  unfold told; rw [if_neg (by omega), if_neg (fun h => h k), if_neg (by unfold dj at x; omega)]; exact if_neg (fun h => h y)
theorem tn (h : a + 14 ≤ 8 * B.length) (k : hL B a ≤ 286 ∧ hD B a ≤ 30) (x : dj B a ≤ 8 * B.length) (y : a8 (bT B a) = 0) (z : eB B (bT B a) (cx B a) (cx B a) [] (dj B a) = .error e) : told B a = .error e := by
  rw [u0 h k x y, z]
theorem tC (h : a + 14 ≤ 8 * B.length) (k : hL B a ≤ 286 ∧ hD B a ≤ 30) (x : dj B a ≤ 8 * B.length) (y : a8 (bT B a) = 0) (z : eB B (bT B a) (cx B a) (cx B a) [] (dj B a) = .ok (l, a')) (q : a8 (l.take (hL B a)) ≠ 0 ∨ a8 (l.drop (hL B a)) ≠ 0 ∨ l.getD 256 0 = 0) : told B a = .error 4 := by
  rw [u0 h k x y, z]; exact if_pos q
theorem CT (h : a + 14 ≤ 8 * B.length) (k : hL B a ≤ 286 ∧ hD B a ≤ 30) (x : dj B a ≤ 8 * B.length) (y : a8 (bT B a) = 0) (z : eB B (bT B a) (cx B a) (cx B a) [] (dj B a) = .ok (l, a')) (q1 : a8 (l.take (hL B a)) = 0) (q2 : a8 (l.drop (hL B a)) = 0) (q3 : l.getD 256 0 ≠ 0) : told B a = .ok (a', l.take (hL B a), l.drop (hL B a)) := by
  rw [u0 h k x y, z]; exact if_neg (fun h => by rcases h with h | h | h; exact h q1; exact h q2; exact q3 h)
end
theorem gZ (B : List Int) (a : Nat) : (bT B a).length = 19 := Be _ _ _
theorem JX {k : Nat} (h : k < 4) : (hJ.getD k (0, 0)).2 = ((hJ.getD k (0, 0)).2.toNat : Int) ∧ (hJ.getD k (0, 0)).2.toNat < 200 := by
  have : ∀ k, k < 4 → (hJ.getD k (0, 0)).2 = ((hJ.getD k (0, 0)).2.toNat : Int) ∧ (hJ.getD k (0, 0)).2.toNat < 200 := by decide
  exact this k h
theorem AR {ls : List Int} (hE : a8 ls = 0) (i : Nat) : 0 ≤ ls.getD i 0 := by
  have hV := (kL hE).1
  rw [List.getD_eq_getElem?_getD]
  cases h : ls[i]? with
  | none => exact Int.le_refl _
  | some x => exact (hV.2 x (List.mem_of_getElem? h)).1
theorem getD_take {l : List Int} {n i : Nat} (h : i < n) : (l.take n).getD i 0 = l.getD i 0 := by
  simp [List.getD_eq_getElem?_getD, List.getElem?_take, h]
end Go.ad
namespace Go.ad
open Go.af
theorem Fi (k : Nat) : gJ (k + 1) = gJ k ++ List.replicate (hJ.getD k (0, 0)).2.toNat (hJ.getD k (0, 0)).1 := rfl
theorem Ot {k : Nat} (h : k < 4) : 0 ≤ (hJ.getD k (0, 0)).2 ∧ (hJ.getD k (0, 0)).2 < 200 := by have := JX h; omega
theorem Gw (B : List Int) (a : Nat) : gH B a 0 = List.replicate 19 0 := rfl
theorem HI (B : List Int) (a k : Nat) : gH B a (k + 1) = (gH B a k).set (lx.getD k 0).toNat (aK B (a + 3 * k) 3) := rfl
theorem Tl (n a : Nat) : 8 * n < a + 5 ∨ (a + 5 ≤ 8 * n ∧ 8 * n < a + 10) ∨ (a + 10 ≤ 8 * n ∧ 8 * n < a + 14) ∨ a + 14 ≤ 8 * n := by omega
theorem VG (p q : Prop) : (p ∧ q) ∨ (p ∧ ¬ q) ∨ ¬ p := by
  rcases Classical.em p with h | h
  · rcases Classical.em q with k | k
    · exact .inl ⟨h, k⟩
    · exact .inr (.inl ⟨h, k⟩)
  · exact .inr (.inr h)
theorem yM (B : List Int) (a : Nat) : cx B a = hL B a + hD B a := rfl
theorem xS (B : List Int) (a : Nat) : dj B a = a + 14 + 3 * hC B a := rfl
theorem yk (B : List Int) (a : Nat) : bT B a = gH B (a + 14) (hC B a) := rfl
end Go.ad
namespace Go.ad
end Go.ad
namespace Go.ad
open Go.af Go.ae
def eo (B : List Int) (s : Int) (a : Nat) : Except Int (Int × Nat) := if 29 ≤ s then .error 4 else if 8 * B.length < a + mE s then .error 2 else .ok (o0 s + aK B a (mE s), a + mE s)
def dr (B ds : List Int) (a : Nat) : Except Int (Int × Nat) := match sym ds B a with
 | .error e => .error e
 | .ok (d, a3) => if 30 ≤ d then .error 4 else if 8 * B.length < a3 + mT d then .error 2 else .ok (te d + aK B a3 (mT d), a3 + mT d)
theorem qf (B : List Int) (a : Nat) : aK B a 0 = 0 := rfl
section
variable {B : List Int} {s : Int} {a : Nat}
theorem EG (h : 29 ≤ s) : eo B s a = .error 4 := if_pos h
def fD (s : Int) : Nat := (s / 4 - 1).toNat
def fX (s : Int) : Nat := (s / 2 - 1).toNat
theorem Bf (h : s < 8 ∨ s = 28) : mE s = 0 := if_pos h
theorem IV (h : 8 ≤ s) (h2 : s < 28) : mE s = fD s := if_neg (by omega)
theorem KM (h : s < 8) : o0 s = 3 + s := if_pos h
theorem KE (h : s = 28) : o0 s = 258 := by unfold o0; rw [if_neg (by omega)]; exact if_pos h
theorem TL (h : 8 ≤ s) (h2 : s < 28) : o0 s = 3 + (4 + s % 4) * 2 ^ fD s := by unfold o0; rw [if_neg (by omega), if_neg (by omega)]; rfl
theorem Mc (h : s < 4) : mT s = 0 := if_pos h
theorem Jb (h : 4 ≤ s) : mT s = fX s := if_neg (by omega)
theorem La (h : s < 4) : te s = 1 + s := if_pos h
theorem Ua (h : 4 ≤ s) : te s = 1 + (2 + s % 2) * 2 ^ fX s := if_neg (by omega)
theorem zN (h0 : 0 ≤ s) (h : s < 8) (ha : a ≤ 8 * B.length) : eo B s a = .ok (3 + s, a) := by
 unfold eo
 rw [if_neg (by omega), Bf (.inl h), KM h, qf, Int.add_zero]; exact if_neg (by omega)
theorem zF (h : s = 28) (ha : a ≤ 8 * B.length) : eo B s a = .ok (258, a) := by
 unfold eo
 rw [if_neg (by omega), Bf (.inr h), KE h, qf, Int.add_zero]; exact if_neg (by omega)
theorem vc (h : 8 ≤ s) (h2 : s < 28) (hx : 8 * B.length < a + fD s) : eo B s a = .error 2 := by
 unfold eo
 rw [if_neg (by omega), IV h h2]; exact if_pos hx
theorem DQ (h : 8 ≤ s) (h2 : s < 28) (hx : a + fD s ≤ 8 * B.length) : eo B s a = .ok (3 + (4 + s % 4) * 2 ^ fD s + aK B a (fD s), a + fD s) := by
 unfold eo
 rw [if_neg (by omega), IV h h2, TL h h2]; exact if_neg (by omega)
theorem xi (h : 8 ≤ s) (h2 : s < 28) : s / 4 - 1 = (fD s : Int) ∧ fD s ≤ 5 ∧ 1 ≤ fD s := by unfold fD; omega
theorem y9 (h : 4 ≤ s) (h2 : s < 30) : s / 2 - 1 = (fX s : Int) ∧ fX s ≤ 13 ∧ 1 ≤ fX s := by unfold fX; omega
end
section
variable {B ds : List Int} {s e : Int} {a a3 : Nat}
theorem E8 (h : sym ds B a = .error e) : dr B ds a = .error e := by unfold dr; rw [h]
theorem Bn (h : sym ds B a = .ok (s, a3)) (k : 30 ≤ s) : dr B ds a = .error 4 := by unfold dr; rw [h]; exact if_pos k
theorem yC (h : sym ds B a = .ok (s, a3)) (h0 : 0 ≤ s) (k : s < 4) (ha : a3 ≤ 8 * B.length) : dr B ds a = .ok (1 + s, a3) := by
 unfold dr; rw [h]; simp only; rw [if_neg (by omega), Mc k, La k, qf, Int.add_zero]; exact if_neg (by omega)
theorem tp (h : sym ds B a = .ok (s, a3)) (h1 : 4 ≤ s) (h2 : s < 30) (hx : 8 * B.length < a3 + fX s) : dr B ds a = .error 2 := by
 unfold dr; rw [h]; simp only; rw [if_neg (by omega), Jb h1]; exact if_pos hx
theorem Bh (h : sym ds B a = .ok (s, a3)) (h1 : 4 ≤ s) (h2 : s < 30) (hx : a3 + fX s ≤ 8 * B.length) : dr B ds a = .ok (1 + (2 + s % 2) * 2 ^ fX s + aK B a3 (fX s), a3 + fX s) := by
 unfold dr; rw [h]; simp only; rw [if_neg (by omega), Jb h1, Ua h1]; exact if_neg (by omega)
end
theorem k7 {x : Int} {n : Nat} (h0 : 0 ≤ x) (h1 : x < 8) (hn : n ≤ 13) {d : Int} (hd : d = (n : Int)) : IntKind.i64.wrap (x * 2 ^ (min d.toNat IntKind.i64.bits)) = x * 2 ^ n ∧ 0 ≤ x * 2 ^ n ∧ x * 2 ^ n < 65536 := by
 have e : min d.toNat IntKind.i64.bits = n := by
  have : IntKind.i64.bits = 64 := rfl
  omega
 have hp : (2 : Int) ^ n ≤ 2 ^ 13 := by
  have := Nat.pow_le_pow_right (n := 2) (by decide) hn
  have e2 : ((2 : Int) ^ n) = ((2 ^ n : Nat) : Int) := by simp
  rw [e2]; exact_mod_cast this
 have h2 : (0 : Int) < 2 ^ n := Int.pow_pos (by decide)
 have h3 : 0 ≤ x * 2 ^ n := Int.mul_nonneg h0 (Int.le_of_lt h2)
 have h4 : x * 2 ^ n ≤ 7 * 2 ^ 13 := Int.le_trans (Int.mul_le_mul_of_nonneg_right (show x ≤ 7 by omega) (Int.le_of_lt h2)) (Int.mul_le_mul_of_nonneg_left hp (by decide))
 rw [e]
 exact ⟨Sl.eX (by omega) (by omega), h3, by omega⟩
theorem Ih {x y : Int} (hx : 0 ≤ x ∧ x < 65536) (hy : 0 ≤ y ∧ y < 65536) : (IntKind.i64.wrap ((BitVec.ofInt IntKind.i64.bits x ^^^ BitVec.ofInt IntKind.i64.bits y).toNat : Int) = 65535) ↔ x = 65535 - y := by
 obtain ⟨a, rfl⟩ : ∃ a : Nat, x = (a : Int) := ⟨x.toNat, by omega⟩
 obtain ⟨b, rfl⟩ : ∃ b : Nat, y = (b : Int) := ⟨y.toNat, by omega⟩
 have e : IntKind.i64.bits = 64 := rfl
 have ha : a < 2 ^ 16 := by omega
 have hb : b < 2 ^ 16 := by omega
 have hlt : a ^^^ b < 2 ^ 16 := Nat.xor_lt_two_pow ha hb
 rw [e, BitVec.toNat_xor, cn, cn, Nat.mod_eq_of_lt (by omega), Nat.mod_eq_of_lt (by omega), Sl.eX (by omega) (by omega)]
 have hc : b ^^^ 65535 = 65535 - b := by
  have h1 : (BitVec.ofNat 16 b ^^^ BitVec.allOnes 16) = ~~~ (BitVec.ofNat 16 b) := BitVec.xor_allOnes
  have h2 := congrArg BitVec.toNat h1
  rw [BitVec.toNat_xor, BitVec.toNat_not, BitVec.toNat_ofNat, BitVec.toNat_allOnes, Nat.mod_eq_of_lt hb] at h2
  exact h2
 constructor
 ·intro h
  have h' : a ^^^ b = 65535 := by omega
  have : a = 65535 ^^^ b := by rw [← h', Nat.xor_assoc, Nat.xor_self, Nat.xor_zero]
  rw [Nat.xor_comm, hc] at this
  omega
 ·intro h
  have h' : a = 65535 - b := by omega
  rw [h', ← hc, Nat.xor_comm b, Nat.xor_assoc, Nat.xor_self, Nat.xor_zero]
  rfl
section
variable {B : List Int} {s : St} {e : Int}
theorem Ca (h : 8 * B.length < s.at_ + 3) : cG B s = .error 2 := if_pos h
theorem xV (h : s.at_ + 3 ≤ 8 * B.length) (k : aK B (s.at_ + 1) 2 = 0) (hx : 8 * B.length < cR (s.at_ + 3) + 32) : cG B s = .error 2 := by
 unfold cG; rw [if_neg (by omega), if_pos k]; exact if_pos hx
theorem Fj (h : s.at_ + 3 ≤ 8 * B.length) (k : aK B (s.at_ + 1) 2 = 0) (hx : cR (s.at_ + 3) + 32 ≤ 8 * B.length) (hm : aK B (cR (s.at_ + 3)) 16 ≠ 65535 - aK B (cR (s.at_ + 3) + 16) 16) : cG B s = .error 4 := by
 unfold cG; rw [if_neg (by omega), if_pos k, if_neg (by omega)]; exact if_neg hm
theorem ye (h : s.at_ + 3 ≤ 8 * B.length) (k : aK B (s.at_ + 1) 2 = 0) (hx : cR (s.at_ + 3) + 32 ≤ 8 * B.length) (hm : aK B (cR (s.at_ + 3)) 16 = 65535 - aK B (cR (s.at_ + 3) + 16) 16) : cG B s = .ok { s with at_ := cR (s.at_ + 3) + 32, kind := 0, left := (aK B (cR (s.at_ + 3)) 16).toNat, last := decide (aK B s.at_ 1 = 1) } := by
 unfold cG; rw [if_neg (by omega), if_pos k, if_neg (by omega)]; exact if_pos hm
theorem I4 (h : s.at_ + 3 ≤ 8 * B.length) (k : aK B (s.at_ + 1) 2 = 1) : cG B s = .ok { s with at_ := s.at_ + 3, kind := 1, last := decide (aK B s.at_ 1 = 1), lits := fb, dD := kz } := by
 unfold cG; rw [if_neg (by omega), if_neg (by omega)]; exact if_pos k
theorem EF (h : s.at_ + 3 ≤ 8 * B.length) (k : aK B (s.at_ + 1) 2 = 2) (t : told B (s.at_ + 3) = .error e) : cG B s = .error e := by
 unfold cG; rw [if_neg (by omega), if_neg (by omega), if_neg (by omega), if_pos k, t]
theorem Fk {a : Nat} {l d : List Int} (h : s.at_ + 3 ≤ 8 * B.length) (k : aK B (s.at_ + 1) 2 = 2) (t : told B (s.at_ + 3) = .ok (a, l, d)) : cG B s = .ok { s with at_ := a, kind := 2, last := decide (aK B s.at_ 1 = 1), lits := l, dD := d } := by
 unfold cG; rw [if_neg (by omega), if_neg (by omega), if_neg (by omega), if_pos k, t]
theorem Eu (h : s.at_ + 3 ≤ 8 * B.length) (k : aK B (s.at_ + 1) 2 ≠ 0) (k1 : aK B (s.at_ + 1) 2 ≠ 1) (k2 : aK B (s.at_ + 1) 2 ≠ 2) : cG B s = .error 4 := by
 unfold cG; rw [if_neg (by omega), if_neg k, if_neg k1]; exact if_neg k2
end
section
variable {B : List Int} {bV : Int} {s : St} {y n f e : Int} {a a2 a3 : Nat}
theorem wj (h : sym s.lits B s.at_ = .error e) : dV B bV s = .error e := by unfold dV; rw [h]
theorem nC (h : sym s.lits B s.at_ = .ok (y, a)) (k : y < 256) : dV B bV s = dU bV { s with at_ := a } y := by unfold dV; rw [h]; exact if_pos k
theorem ra (h : sym s.lits B s.at_ = .ok (y, a)) (k : y = 256) : dV B bV s = .ok { s with at_ := a, kind := -1, ended := s.last } := by unfold dV; rw [h]; simp only; rw [if_neg (by omega)]; exact if_pos k
theorem td (h : sym s.lits B s.at_ = .ok (y, a)) (k : 256 < y) : dV B bV s = (match eo B (y - 257) a with
  | .error e => .error e
  | .ok (n, a2) => match dr B s.dD a2 with
   | .error e => .error e
   | .ok (f, a3) => if f ≤ s.out.length then .ok { s with at_ := a3, ax := n.toNat, bA := f.toNat } else .error 4) := by
 unfold dV eo; rw [h]; simp only
 rw [if_neg (by omega), if_neg (by omega)]
 by_cases h1 : 286 ≤ y
 ·rw [if_pos h1, if_pos (show 29 ≤ y - 257 by omega)]
 ·rw [if_neg h1, if_neg (show ¬ 29 ≤ y - 257 by omega)]
  by_cases h2 : 8 * B.length < a + mE (y - 257)
  ·rw [if_pos h2, if_pos h2]
  ·rw [if_neg h2, if_neg h2]
   unfold dr
   simp only
   cases hs : sym s.dD B (a + mE (y - 257)) with
   | error e => rfl
   | ok q =>
    obtain ⟨d, a3⟩ := q
    simp only
    by_cases h3 : 30 ≤ d
    ·rw [if_pos h3, if_pos h3]
    ·rw [if_neg h3, if_neg h3]
     by_cases h4 : 8 * B.length < a3 + mT d
     ·rw [if_pos h4, if_pos h4]
     ·rw [if_neg h4, if_neg h4]
theorem wo (h : sym s.lits B s.at_ = .ok (y, a)) (k : 256 < y) (l : eo B (y - 257) a = .error e) : dV B bV s = .error e := by rw [td h k, l]
theorem wx (h : sym s.lits B s.at_ = .ok (y, a)) (k : 256 < y) (l : eo B (y - 257) a = .ok (n, a2)) (w : dr B s.dD a2 = .error e) : dV B bV s = .error e := by rw [td h k, l]; simp only; rw [w]
theorem wk (h : sym s.lits B s.at_ = .ok (y, a)) (k : 256 < y) (l : eo B (y - 257) a = .ok (n, a2)) (w : dr B s.dD a2 = .ok (f, a3)) (q : ¬ f ≤ s.out.length) : dV B bV s = .error 4 := by rw [td h k, l]; simp only; rw [w]; exact if_neg q
theorem wq (h : sym s.lits B s.at_ = .ok (y, a)) (k : 256 < y) (l : eo B (y - 257) a = .ok (n, a2)) (w : dr B s.dD a2 = .ok (f, a3)) (q : f ≤ s.out.length) : dV B bV s = .ok { s with at_ := a3, ax := n.toNat, bA := f.toNat } := by rw [td h k, l]; simp only; rw [w]; exact if_pos q
end
theorem Dz {B : List Int} {s n : Int} {a a2 : Nat} (h0 : 0 ≤ s) (ha : a ≤ 8 * B.length) (h : eo B s a = .ok (n, a2)) : 3 ≤ n ∧ n < 400 ∧ a ≤ a2 ∧ a2 ≤ 8 * B.length := by
 by_cases h1 : s < 8
 ·rw [zN h0 h1 ha] at h; cases h; omega
 by_cases h2 : 29 ≤ s
 ·rw [EG h2] at h; cases h
 by_cases h3 : s = 28
 ·rw [zF h3 ha] at h; cases h; omega
 by_cases h4 : a + fD s ≤ 8 * B.length
 ·rw [DQ (by omega) (by omega) h4] at h; cases h
  obtain ⟨k1, k2, k3⟩ := xi (s := s) (by omega) (by omega)
  have hb := bF B a (fD s)
  have : fD s = 1 ∨ fD s = 2 ∨ fD s = 3 ∨ fD s = 4 ∨ fD s = 5 := by omega
  rcases this with e | e | e | e | e <;> rw [e] at hb ⊢ <;> omega
 ·rw [vc (by omega) (by omega) (by omega)] at h; cases h
theorem CH {B ds : List Int} {n : Int} {a a3 : Nat} (hE : a8 ds = 0) (hd : 0 < ds.length) (h : dr B ds a = .ok (n, a3)) : 1 ≤ n ∧ n < 100000 ∧ a ≤ a3 ∧ a3 ≤ 8 * B.length := by
 cases hs : sym ds B a with
 | error e => rw [E8 hs] at h; cases h
 | ok q =>
  obtain ⟨s, b⟩ := q
  have hg := qi hE hd hs
  by_cases h2 : 30 ≤ s
  ·rw [Bn hs h2] at h; cases h
  by_cases h1 : s < 4
  ·rw [yC hs hg.1 h1 hg.2.2.2] at h; cases h; omega
  by_cases h4 : b + fX s ≤ 8 * B.length
  ·rw [Bh hs (by omega) (by omega) h4] at h; cases h
   obtain ⟨k1, k2, k3⟩ := y9 (s := s) (by omega) (by omega)
   have hb := bF B b (fX s)
   obtain ⟨_, m1, m2⟩ := k7 (x := 2 + s % 2) (n := fX s) (by omega) (by omega) (by omega) rfl
   have hp : (2 : Int) ^ fX s ≤ 2 ^ 13 := by
    have := Nat.pow_le_pow_right (n := 2) (by decide) k2
    have e2 : ((2 : Int) ^ fX s) = ((2 ^ fX s : Nat) : Int) := by simp
    rw [e2]; exact_mod_cast this
   omega
  ·rw [tp hs (by omega) (by omega) (by omega)] at h; cases h
end Go.ad
namespace Go.ad
open Go.af Go.ae
theorem EH {B : List Int} {s : Int} {a : Nat} (h0 : 0 ≤ s) (ha : a ≤ 8 * B.length) : (∃ e, eo B s a = .error e) ∨ ∃ n a2 : Nat, eo B s a = .ok ((n : Int), a2) ∧ 3 ≤ n ∧ n < 400 ∧ a ≤ a2 ∧ a2 ≤ 8 * B.length := by
 rcases fH (eo B s a) with h | ⟨⟨n, a2⟩, h⟩
 ·exact .inl h
 ·have hg := Dz h0 ha h
  refine .inr ⟨n.toNat, a2, ?_, by omega, by omega, hg.2.2.1, hg.2.2.2⟩
  rw [h, Int.toNat_of_nonneg (by omega)]
theorem An {B ds : List Int} {a : Nat} (hE : a8 ds = 0) (hd : 0 < ds.length) : (∃ e, dr B ds a = .error e) ∨ ∃ f a2 : Nat, dr B ds a = .ok ((f : Int), a2) ∧ 1 ≤ f ∧ f < 100000 ∧ a ≤ a2 ∧ a2 ≤ 8 * B.length := by
 rcases fH (dr B ds a) with h | ⟨⟨n, a2⟩, h⟩
 ·exact .inl h
 ·have hg := CH hE hd h
  refine .inr ⟨n.toNat, a2, ?_, by omega, by omega, hg.2.2.1, hg.2.2.2⟩
  rw [h, Int.toNat_of_nonneg (by omega)]
theorem yo {B ls : List Int} {a : Nat} (hE : a8 ls = 0) (hd : 0 < ls.length) : (∃ e, sym ls B a = .error e) ∨ ∃ (y : Int) (a2 : Nat), sym ls B a = .ok (y, a2) ∧ 0 ≤ y ∧ y < ls.length ∧ a < a2 ∧ a2 ≤ 8 * B.length := by
 rcases fH (sym ls B a) with h | ⟨⟨y, a2⟩, h⟩
 ·exact .inl h
 ·exact .inr ⟨y, a2, h, qi hE hd h⟩
structure Ok (B : List Int) (mo : Int) (s : St) : Prop where
 at_ : s.at_ ≤ 8 * B.length
 room : (s.out.length : Int) ≤ mo
 oH : ak s.out
 kind : s.kind = -1 ∨ s.kind = 0 ∨ s.kind = 1 ∨ s.kind = 2
 left : s.left < 65536
 Jg : 0 < s.kind → a8 s.lits = 0 ∧ a8 s.dD = 0 ∧ 0 < s.lits.length ∧ 0 < s.dD.length
 ax : s.ax < 400
 bA : 0 < s.ax → 1 ≤ s.bA ∧ s.bA ≤ s.out.length
theorem Ev {B l d : List Int} {a a' : Nat} (h : told B a = .ok (a', l, d)) : a8 l = 0 ∧ a8 d = 0 ∧ 0 < l.length ∧ 0 < d.length ∧ a < a' ∧ a' ≤ 8 * B.length := by
 by_cases h1 : 8 * B.length < a + 14
 ·rw [sP h1] at h; cases h
 by_cases h2' : ¬ (hL B a ≤ 286 ∧ hD B a ≤ 30)
 ·rw [w3 (by omega) h2'] at h; cases h
 have h2 := Classical.not_not.1 h2'
 by_cases h3 : 8 * B.length < dj B a
 ·rw [ES (by omega) h2 h3] at h; cases h
 by_cases h4' : a8 (bT B a) ≠ 0
 ·rw [DT (by omega) h2 (by omega) h4'] at h; cases h
 have h4 := Classical.not_not.1 h4'
 cases h5 : eB B (bT B a) (cx B a) (cx B a) [] (dj B a) with
 | error e => rw [tn (by omega) h2 (by omega) h4 h5] at h; cases h
 | ok q =>
  obtain ⟨ls, a2⟩ := q
  by_cases h6 : a8 (ls.take (hL B a)) ≠ 0 ∨ a8 (ls.drop (hL B a)) ≠ 0 ∨ ls.getD 256 0 = 0
  ·rw [tC (by omega) h2 (by omega) h4 h5 h6] at h; cases h
  ·have h7 : a8 (ls.take (hL B a)) = 0 := by
    rcases Classical.em (a8 (ls.take (hL B a)) = 0) with k | k
    ·exact k
    ·exact (h6 (.inl k)).elim
   have h8 : a8 (ls.drop (hL B a)) = 0 := by
    rcases Classical.em (a8 (ls.drop (hL B a)) = 0) with k | k
    ·exact k
    ·exact (h6 (.inr (.inl k))).elim
   have h9 : ls.getD 256 0 ≠ 0 := fun k => h6 (.inr (.inr k))
   rw [CT (by omega) h2 (by omega) h4 h5 h7 h8 h9] at h
   cases h
   have key : ∀ (f : Nat) (l : List Int) (x : Nat), cx B a ≤ f + l.length → l.length ≤ cx B a → x ≤ 8 * B.length → eB B (bT B a) (cx B a) f l x = .ok (ls, a') → ls.length = cx B a ∧ x ≤ a' ∧ a' ≤ 8 * B.length := by
    intro f
    induction f with
    | zero => intro l x k1 k2 k3 k4; rw [lY (by omega)] at k4; cases k4; exact ⟨by omega, Nat.le_refl _, k3⟩
    | succ f ih =>
     intro l x k1 k2 k3 k4
     by_cases hl : cx B a ≤ l.length
     ·rw [lY hl] at k4; cases k4; exact ⟨by omega, Nat.le_refl _, k3⟩
     ·rcases BH B (bT B a) l x with ⟨e, hs⟩ | ⟨sy, x2, e, hs, hr⟩ | ⟨sy, x2, v, n, x3, hs, hr⟩
      ·rw [nW (by omega) k1 (sA hs)] at k4; cases k4
      ·rw [nW (by omega) k1 (se hs hr)] at k4; cases k4
      ·have hsg := qi h4 (by rw [gZ]; omega) hs
       have hrg := yf hsg.2.2.2 hr
       by_cases hb : (l ++ List.replicate n.toNat v).length ≤ cx B a
       ·rw [vt (by omega) k1 (mj hs hr) hb] at k4
        have := ih _ _ (by rw [List.length_append, List.length_replicate]; omega) hb hrg.2.2.2 k4
        exact ⟨this.1, by omega, this.2.2⟩
       ·rw [xv (by omega) k1 (mj hs hr) hb] at k4; cases k4
   have hA := xS B a
   have := key _ [] _ (Nat.le_add_right _ _) (Nat.zero_le _) (show dj B a ≤ 8 * B.length by omega) h5
   have hN := yM B a
   have hd := Eg B a
   have hn2 := bF B (a + 5) 5
   refine ⟨h7, h8, ?_, ?_, by omega, this.2.2⟩
   ·rw [List.length_take]; omega
   ·rw [List.length_drop]
    have : 1 ≤ hD B a := by omega
    omega
end Go.ad
namespace Go.ad
open Go.af Go.ae
theorem xM {ls : List Int} (h : a8 ls = 0) : ls.length ≤ 320 := (kL h).1.1
theorem wL (a : Nat) : cR a = (a + 7) / 8 * 8 := rfl
theorem T4 (n a : Nat) : 8 * n < a + 16 ∨ (a + 16 ≤ 8 * n ∧ 8 * n < a + 32) ∨ a + 32 ≤ 8 * n := by omega
end Go.ad
namespace Go.ad
open Go.af Go.ae
section
variable {B : List Int} {mo y e : Int} {s s2 : St} {at_ : Nat}
theorem pW (h : dU mo s y = .ok s2) : (s.out.length : Int) < mo ∧ s2 = { s with out := s.out ++ [y] } := by
  unfold dU at h
  split at h
  · cases h; rename_i k; exact ⟨k, rfl⟩
  · cases h
theorem lU (h : (s.out.length : Int) < mo) : dU mo s y = .ok { s with out := s.out ++ [y] } := if_pos h
theorem mi (h : ¬ (s.out.length : Int) < mo) : dU mo s y = .error 6 := if_neg h
theorem Sc (h : dU mo { s with at_ := at_ } y = .error e) : dU mo s y = .error e := by
  by_cases k : (s.out.length : Int) < mo
  · rw [lU (s := { s with at_ := at_ }) k] at h; cases h
  · rw [mi (s := { s with at_ := at_ }) k] at h; rw [mi k]; exact h
theorem O0 (B : List Int) (a : Nat) (mo : Int) (s : St) (y : Int) : 8 * B.length < a + 8 ∨ (a + 8 ≤ 8 * B.length ∧ ∃ e, dU mo s y = .error e) ∨ (a + 8 ≤ 8 * B.length ∧ ∃ s2, dU mo s y = .ok s2) := by
  rcases Nat.lt_or_ge (8 * B.length) (a + 8) with h | h
  · exact .inl h
  · rcases fH (dU mo s y) with k | k
    · exact .inr (.inl ⟨h, k⟩)
    · exact .inr (.inr ⟨h, k⟩)
theorem My (h : 0 < s.ax) (k : (s.out.length : Int) < mo) : one B mo s = .ok { s with ax := s.ax - 1, out := s.out ++ [s.out.getD (s.out.length - s.bA) 0] } := by
  unfold one; rw [if_pos h]; exact lU k
theorem OZ (h : 0 < s.ax) (k : dU mo s (s.out.getD (s.out.length - s.bA) 0) = .error e) : one B mo s = .error e := by
  unfold one; rw [if_pos h]
  by_cases q : (s.out.length : Int) < mo
  · rw [lU q] at k; cases k
  · rw [mi q] at k; rw [← k]; exact mi q
theorem ug (h : ¬ 0 < s.ax) (k : s.kind = -1) : one B mo s = cG B s := by unfold one; rw [if_neg h, if_pos k]
theorem wi (h : ¬ 0 < s.ax) (k : ¬ s.kind = -1) (k0 : s.kind ≠ 0) : one B mo s = dV B mo s := by unfold one; rw [if_neg h, if_neg k, if_pos k0]
theorem tY (h : ¬ 0 < s.ax) (k : ¬ s.kind = -1) (k0 : s.kind = 0) (l : s.left = 0) : one B mo s = .ok { s with kind := -1, ended := s.last } := by unfold one; rw [if_neg h, if_neg k, if_neg (by omega), if_pos l]
theorem yB (h : ¬ 0 < s.ax) (k : ¬ s.kind = -1) (k0 : s.kind = 0) (l : ¬ s.left = 0) (x : 8 * B.length < s.at_ + 8) : one B mo s = .error 2 := by unfold one; rw [if_neg h, if_neg k, if_neg (by omega), if_neg l, if_pos x]
theorem sT (h : ¬ 0 < s.ax) (k : ¬ s.kind = -1) (k0 : s.kind = 0) (l : ¬ s.left = 0) (x : s.at_ + 8 ≤ 8 * B.length) : one B mo s = dU mo { s with at_ := s.at_ + 8, left := s.left - 1 } (aK B s.at_ 8) := by unfold one; rw [if_neg h, if_neg k, if_neg (by omega), if_neg l, if_neg (by omega)]
theorem one_le (h : ¬ 0 < s.ax) (k : ¬ s.kind = -1) (k0 : s.kind = 0) (l : ¬ s.left = 0) (x : s.at_ + 8 ≤ 8 * B.length) (p : dU mo { s with at_ := s.at_ + 8 } (aK B s.at_ 8) = .error e) : one B mo s = .error e := by
  rw [sT h k k0 l x]
  by_cases q : (s.out.length : Int) < mo
  · rw [lU (s := { s with at_ := s.at_ + 8 }) q] at p; cases p
  · rw [mi (s := { s with at_ := s.at_ + 8 }) q] at p; rw [← p]; exact mi q
theorem Fu (h : ¬ 0 < s.ax) (k : ¬ s.kind = -1) (k0 : s.kind = 0) (l : ¬ s.left = 0) (x : s.at_ + 8 ≤ 8 * B.length) (q : (s.out.length : Int) < mo) : one B mo s = .ok { s with at_ := s.at_ + 8, left := s.left - 1, out := s.out ++ [aK B s.at_ 8] } := by
  rw [sT h k k0 l x]; exact lU q
end
end Go.ad
namespace Go.ad
open Go.af Go.ae
theorem Hq : fb.length = 288 := by decide +kernel
theorem Gq : kz.length = 32 := by decide +kernel
def mu (B : List Int) (s : St) : Nat := (8 * B.length - s.at_) * 1000 + s.ax + (if s.kind = -1 then 0 else 1)
theorem IM {B : List Int} {s : St} (h : s.kind = -1) : mu B s = (8 * B.length - s.at_) * 1000 + s.ax := by unfold mu; rw [if_pos h, Nat.add_zero]
theorem OE {B : List Int} {s : St} (h : ¬ s.kind = -1) : mu B s = (8 * B.length - s.at_) * 1000 + s.ax + 1 := by unfold mu; rw [if_neg h]
theorem oy (B : List Int) (s : St) : mu B s ≤ (8 * B.length - s.at_) * 1000 + s.ax + 1 := by unfold mu; split <;> omega
theorem Lm {l : List Int} {y : Int} (h : ak l) (hy : 0 ≤ y ∧ y < 256) : ak (l ++ [y]) := by
  intro x hx
  rcases List.mem_append.1 hx with hx | hx
  · exact h x hx
  · rw [List.mem_singleton.1 hx]; exact hy
structure Good (B : List Int) (mo : Int) (s s2 : St) : Prop where
  ok : Ok B mo s2
  less : mu B s2 < mu B s
  le : s.out.length ≤ s2.out.length
  one : s2.out.length ≤ s.out.length + 1
theorem r5 {B : List Int} {mo : Int} {s s1 s2 : St} {y : Int} (hy : 0 ≤ y ∧ y < 256) (h : dU mo s1 y = .ok s2) (ho : s1.out = s.out) (hok : Ok B mo s1) (hl : mu B s1 < mu B s) (hf : s1.ax = 0 ∨ True) : Good B mo s s2 := by
  obtain ⟨k, rfl⟩ := pW h
  refine ⟨⟨hok.at_, by simp; omega, Lm hok.oH hy, hok.kind, hok.left, hok.Jg, hok.ax, fun h => ?_⟩, hl, by simp [ho], by simp [ho]⟩
  have := hok.bA h
  simp; omega
theorem kN {B : List Int} {mo : Int} {s s2 : St} (hB : ak B) (hok : Ok B mo s) (h : one B mo s = .ok s2) : Good B mo s s2 := by
  obtain ⟨q1, q2, q3, q4, q5, q6, q7, q8⟩ := hok
  by_cases hc : 0 < s.ax
  · have he : dU mo { s with ax := s.ax - 1 } (s.out.getD (s.out.length - s.bA) 0) = .ok s2 := by unfold one at h; rw [if_pos hc] at h; exact h
    refine r5 (q3.get _) he rfl ⟨q1, q2, q3, q4, q5, q6, by show s.ax - 1 < 400; omega, fun _ => q8 hc⟩ ?_ (.inr trivial)
    show (8 * B.length - s.at_) * 1000 + (s.ax - 1) + (if s.kind = -1 then 0 else 1) < (8 * B.length - s.at_) * 1000 + s.ax + (if s.kind = -1 then 0 else 1)
    omega
  by_cases hk : s.kind = -1
  · rw [ug hc hk] at h
    by_cases h1 : 8 * B.length < s.at_ + 3
    · rw [Ca h1] at h; cases h
    have hx1 : s.at_ + 3 ≤ 8 * B.length := by omega
    have hm := IM (B := B) hk
    by_cases k0 : aK B (s.at_ + 1) 2 = 0
    · by_cases hx : 8 * B.length < cR (s.at_ + 3) + 32
      · rw [xV hx1 k0 hx] at h; cases h
      · by_cases hn : aK B (cR (s.at_ + 3)) 16 = 65535 - aK B (cR (s.at_ + 3) + 16) 16
        · rw [ye hx1 k0 (by omega) hn] at h; cases h
          have hb := bF B (cR (s.at_ + 3)) 16
          have ha := wL (s.at_ + 3)
          refine ⟨⟨by show cR (s.at_ + 3) + 32 ≤ _; omega, q2, q3, .inr (.inl rfl), by show (aK B (cR (s.at_ + 3)) 16).toNat < 65536; omega, fun h => absurd h (by show ¬ (0 : Int) < 0; omega), q7, q8⟩, ?_, Nat.le_refl _, Nat.le_succ _⟩
          refine Nat.lt_of_le_of_lt (oy B _) ?_
          rw [hm]
          show (8 * B.length - (cR (s.at_ + 3) + 32)) * 1000 + s.ax + 1 < _
          omega
        · rw [Fj hx1 k0 (by omega) hn] at h; cases h
    · by_cases k1 : aK B (s.at_ + 1) 2 = 1
      · rw [I4 hx1 k1] at h; cases h
        refine ⟨⟨hx1, q2, q3, .inr (.inr (.inl rfl)), q5, fun _ => ⟨Ad, AZ, by show 0 < fb.length; rw [Hq]; decide, by show 0 < kz.length; rw [Gq]; decide⟩, q7, q8⟩, ?_, Nat.le_refl _, Nat.le_succ _⟩
        refine Nat.lt_of_le_of_lt (oy B _) ?_
        rw [hm]
        show (8 * B.length - (s.at_ + 3)) * 1000 + s.ax + 1 < _
        omega
      · by_cases k2 : aK B (s.at_ + 1) 2 = 2
        · rcases fH (told B (s.at_ + 3)) with ⟨e, ht⟩ | ⟨⟨a, l, d⟩, ht⟩
          · rw [EF hx1 k2 ht] at h; cases h
          · rw [Fk hx1 k2 ht] at h; cases h
            obtain ⟨t1, t2, t3, t4, t5, t6⟩ := Ev ht
            refine ⟨⟨t6, q2, q3, .inr (.inr (.inr rfl)), q5, fun _ => ⟨t1, t2, t3, t4⟩, q7, q8⟩, ?_, Nat.le_refl _, Nat.le_succ _⟩
            refine Nat.lt_of_le_of_lt (oy B _) ?_
            rw [hm]
            show (8 * B.length - a) * 1000 + s.ax + 1 < _
            omega
        · rw [Eu hx1 k0 k1 k2] at h; cases h
  have hm := OE (B := B) hk
  by_cases hk0 : s.kind = 0
  · by_cases hl : s.left = 0
    · rw [tY hc hk hk0 hl] at h; cases h
      refine ⟨⟨q1, q2, q3, .inl rfl, q5, fun h => absurd h (by show ¬ (0 : Int) < -1; omega), q7, q8⟩, ?_, Nat.le_refl _, Nat.le_succ _⟩
      rw [hm, IM rfl]
      show (8 * B.length - s.at_) * 1000 + s.ax < _
      omega
    · by_cases hx : 8 * B.length < s.at_ + 8
      · rw [yB hc hk hk0 hl hx] at h; cases h
      · rw [sT hc hk hk0 hl (by omega)] at h
        have hb := bF B s.at_ 8
        refine r5 (by omega) h rfl ⟨by show s.at_ + 8 ≤ _; omega, q2, q3, q4, by show s.left - 1 < 65536; omega, q6, q7, q8⟩ ?_ (.inr trivial)
        refine Nat.lt_of_le_of_lt (oy B _) ?_
        rw [hm]
        show (8 * B.length - (s.at_ + 8)) * 1000 + s.ax + 1 < _
        omega
  · rw [wi hc hk hk0] at h
    have hkp : 0 < s.kind := by omega
    obtain ⟨e1, e2, z1, z2⟩ := q6 hkp
    rcases yo (B := B) (a := s.at_) e1 z1 with ⟨e, hs⟩ | ⟨y, a1, hs, y0, y1, a0, ha1⟩
    · rw [wj hs] at h; cases h
    by_cases hy : y < 256
    · rw [nC hs hy] at h
      refine r5 (by omega) h rfl ⟨ha1, q2, q3, q4, q5, q6, q7, q8⟩ ?_ (.inr trivial)
      refine Nat.lt_of_le_of_lt (oy B _) ?_
      rw [hm]
      show (8 * B.length - a1) * 1000 + s.ax + 1 < _
      omega
    by_cases hy2 : y = 256
    · rw [ra hs hy2] at h; cases h
      refine ⟨⟨ha1, q2, q3, .inl rfl, q5, fun h => absurd h (by show ¬ (0 : Int) < -1; omega), q7, q8⟩, ?_, Nat.le_refl _, Nat.le_succ _⟩
      refine Nat.lt_of_le_of_lt (oy B _) ?_
      rw [hm]
      show (8 * B.length - a1) * 1000 + s.ax + 1 < _
      omega
    rcases EH (B := B) (s := y - 257) (a := a1) (by omega) ha1 with ⟨e, hn⟩ | ⟨n, a2, hn, n0, n1, n2, n3⟩
    · rw [wo hs (by omega) hn] at h; cases h
    rcases An (B := B) (a := a2) e2 z2 with ⟨e, hf⟩ | ⟨f, a3, hf, f0, f1, f2, f3⟩
    · rw [wx hs (by omega) hn hf] at h; cases h
    by_cases hfo : f ≤ s.out.length
    · rw [wq hs (by omega) hn hf (by omega)] at h; cases h
      refine ⟨⟨f3, q2, q3, q4, q5, q6, by show ((n : Int)).toNat < 400; omega, fun _ => by show 1 ≤ ((f : Int)).toNat ∧ ((f : Int)).toNat ≤ s.out.length; omega⟩, ?_, Nat.le_refl _, Nat.le_succ _⟩
      refine Nat.lt_of_le_of_lt (oy B _) ?_
      rw [hm]
      show (8 * B.length - a3) * 1000 + ((n : Int)).toNat + 1 < _
      omega
    · rw [wk hs (by omega) hn hf (by omega)] at h; cases h
inductive Lp (B : List Int) (mo : Int) (w : Nat) (n : Int) : St → Except Int St → Prop
  | stop {s : St} : (s.ended = true ∨ n ≤ (s.out.length : Int) - w) → Lp B mo w n s (.ok s)
  | step {s s' : St} {o : Except Int St} : s.ended = false → (s.out.length : Int) - w < n → one B mo s = .ok s' → Lp B mo w n s' o → Lp B mo w n s o
  | fail {s : St} {e : Int} : s.ended = false → (s.out.length : Int) - w < n → one B mo s = .error e → Lp B mo w n s (.error e)
theorem Tn {B : List Int} {mo : Int} (hB : ak B) (w : Nat) (n : Int) : ∀ (k : Nat) {s : St}, mu B s ≤ k → Ok B mo s → ∃ o, Lp B mo w n s o := by
  intro k
  induction k with
  | zero =>
    intro s hk hok
    by_cases h1 : s.ended = true
    · exact ⟨_, .stop (.inl h1)⟩
    by_cases h2 : n ≤ (s.out.length : Int) - w
    · exact ⟨_, .stop (.inr h2)⟩
    rcases fH (one B mo s) with ⟨e, h⟩ | ⟨s2, h⟩
    · exact ⟨_, .fail (by simpa using h1) (by omega) h⟩
    · have := (kN hB hok h).less; omega
  | succ k ih =>
    intro s hk hok
    by_cases h1 : s.ended = true
    · exact ⟨_, .stop (.inl h1)⟩
    by_cases h2 : n ≤ (s.out.length : Int) - w
    · exact ⟨_, .stop (.inr h2)⟩
    rcases fH (one B mo s) with ⟨e, h⟩ | ⟨s2, h⟩
    · exact ⟨_, .fail (by simpa using h1) (by omega) h⟩
    · have hg := kN hB hok h
      have := hg.less
      obtain ⟨o, ho⟩ := ih (show mu B s2 ≤ k by omega) hg.ok
      exact ⟨o, .step (by simpa using h1) (by omega) h ho⟩
theorem KT {B : List Int} {mo : Int} {w : Nat} {n : Int} {s : St} {o : Except Int St} (hB : ak B) (h : Lp B mo w n s o) : Ok B mo s → (∀ s2, o = .ok s2 → Ok B mo s2 ∧ mu B s2 ≤ mu B s ∧ gm B mo s s2 ∧ (s2.ended = true ∨ n ≤ (s2.out.length : Int) - w) ∧ (s.ended = false → (s.out.length : Int) - w < n → mu B s2 < mu B s) ∧ s.out.length ≤ s2.out.length) ∧ (∀ e, o = .error e → jb B mo s (.error e)) := by
  induction h with
  | stop h => intro hok; exact ⟨fun s2 e => by cases e; exact ⟨hok, Nat.le_refl _, .refl _ _ _, h, fun h1 h2 => by rcases h with h | h; (rw [h1] at h; cases h); omega, Nat.le_refl _⟩, fun e h => by cases h⟩
  | step h1 h2 h3 h4 ih =>
    intro hok
    have hg := kN hB hok h3
    have hl := hg.less
    have hle := hg.le
    obtain ⟨k1, k2⟩ := ih hg.ok
    refine ⟨fun s2 e => ?_, fun e h => .step h1 h3 (k2 e h)⟩
    obtain ⟨m1, m2, m3, m4, m5, m6⟩ := k1 s2 e
    exact ⟨m1, by omega, (gm.one h1 h3).trans m3, m4, fun _ _ => by omega, by omega⟩
  | fail h1 h2 h3 => intro hok; exact ⟨fun s2 e => (by cases e), fun e h => by cases h; exact .fail h1 h3⟩
abbrev Jt := Except Int St
def jN : Jt → Bool
  | .ok s => s.ended
  | .error _ => true
def py : Jt → List Int
  | .ok s => if s.ended = true then s.out else []
  | .error _ => []
def Ci : Jt → Int
  | .ok _ => 0
  | .error e => e
def qS : Jt → Int
  | .ok s => if s.ended = true then ((s.at_ + 7) / 8 : Nat) else 0
  | .error _ => 0
def vh (B : List Int) (mo : Int) : Jt → Prop
  | .ok s => Ok B mo s
  | .error e => e ≠ 0
def Cb (B : List Int) (mo n : Int) (r r' : Jt) : Prop := ((n < 1 ∨ jN r = true) ∧ r' = r) ∨ (1 ≤ n ∧ ∃ s, r = .ok s ∧ s.ended = false ∧ Lp B mo s.out.length n s r')
def Dl (B : List Int) (mo : Int) (s0 : St) : Jt → Prop
  | .ok s => gm B mo s0 s
  | .error e => jb B mo s0 (.error e)
def Ou : Oc → List Int × Int × Int
  | .ok (x, n) => (x, (n : Int), 0)
  | .error e => ([], 0, e)
theorem og {B : List Int} {mo : Int} (h : 0 ≤ mo) : Ok B mo start := ⟨Nat.zero_le _, by show ((0 : Nat) : Int) ≤ mo; omega, fun x hx => (by cases hx), .inl rfl, by decide, fun h => absurd h (by decide), by decide, fun h => absurd h (by decide)⟩
end Go.ad
namespace Go.ad
section
variable {B : List Int} {mo n e : Int} {w : Nat} {s s2 : St} {o : Except Int St}
theorem Jo (h : Lp B mo w n s o) (k : s.ended = true ∨ n ≤ (s.out.length : Int) - w) : o = .ok s := by
  cases h with
  | stop _ => rfl
  | step h1 h2 => exfalso; rcases k with k | k; (rw [h1] at k; cases k); omega
  | fail h1 h2 => exfalso; rcases k with k | k; (rw [h1] at k; cases k); omega
theorem Tt (h : Lp B mo w n s o) (k1 : s.ended = false) (k2 : (s.out.length : Int) - w < n) (p : one B mo s = .ok s2) : Lp B mo w n s2 o := by
  cases h with
  | stop h => exfalso; rcases h with k | k; (rw [k1] at k; cases k); omega
  | step _ _ h3 h4 => rw [h3] at p; cases p; exact h4
  | fail _ _ h3 => rw [h3] at p; cases p
theorem Tf (h : Lp B mo w n s o) (k1 : s.ended = false) (k2 : (s.out.length : Int) - w < n) (p : one B mo s = .error e) : o = .error e := by
  cases h with
  | stop h => exfalso; rcases h with k | k; (rw [k1] at k; cases k); omega
  | step _ _ h3 h4 => rw [h3] at p; cases p
  | fail _ _ h3 => rw [h3] at p; cases p; rfl
end
end Go.ad
namespace Go.ad
open Go.af Go.ae
section
variable {B : List Int} {mo e : Int}
theorem xE {ls : List Int} {a : Nat} (h : sym ls B a = .error e) : e ≠ 0 := by
  unfold sym at h; split at h <;> cases h <;> decide
theorem NR {l : List Int} {s : Int} {a : Nat} (h : rep B s l a = .error e) : e ≠ 0 := by
  unfold rep at h
  split at h
  · cases h
  split at h
  · cases h; decide
  split at h
  · cases h; decide
  · cases h
theorem K5 {c : List Int} {tot : Nat} : ∀ {f : Nat} {l : List Int} {a : Nat}, eB B c tot f l a = .error e → e ≠ 0 := by
  intro f
  induction f with
  | zero => intro l a h; cases h
  | succ f ih =>
    intro l a h
    simp only [eB] at h
    split at h
    · rcases BH B c l a with ⟨e2, hs⟩ | ⟨sy, x2, e2, hs, hr⟩ | ⟨sy, x2, v, n, x3, hs, hr⟩
      · rw [sA hs] at h; cases h; exact xE hs
      · rw [se hs hr] at h; cases h; exact NR hr
      · rw [mj hs hr] at h
        simp only at h
        split at h
        · exact ih h
        · cases h; decide
    · cases h
theorem JZ {a : Nat} (h : told B a = .error e) : e ≠ 0 := by
  unfold told at h
  split at h
  · cases h; decide
  split at h
  · cases h; decide
  split at h
  · cases h; decide
  split at h
  · cases h; decide
  split at h
  · rename_i e2 h2; cases h; exact K5 h2
  · split at h
    · cases h; decide
    · cases h
theorem zh {s : St} {y : Int} (h : dU mo s y = .error e) : e ≠ 0 := by
  unfold dU at h; split at h <;> cases h; decide
theorem OS {s : Int} {a : Nat} (h : eo B s a = .error e) : e ≠ 0 := by
  unfold eo at h
  split at h
  · cases h; decide
  split at h
  · cases h; decide
  · cases h
theorem LY {ds : List Int} {a : Nat} (h : dr B ds a = .error e) : e ≠ 0 := by
  unfold dr at h
  split at h
  · rename_i e2 h2; cases h; exact xE h2
  · split at h
    · cases h; decide
    split at h
    · cases h; decide
    · cases h
theorem GN {s : St} (h : cG B s = .error e) : e ≠ 0 := by
  unfold cG at h
  split at h
  · cases h; decide
  split at h
  · split at h
    · cases h; decide
    split at h
    · cases h
    · cases h; decide
  split at h
  · cases h
  split at h
  · split at h
    · rename_i e2 h2; cases h; exact JZ h2
    · cases h
  · cases h; decide
theorem Gt {s : St} (h : dV B mo s = .error e) : e ≠ 0 := by
  rcases fH (sym s.lits B s.at_) with ⟨e2, hs⟩ | ⟨⟨y, a⟩, hs⟩
  · rw [wj hs] at h; cases h; exact xE hs
  by_cases h1 : y < 256
  · rw [nC hs h1] at h; exact zh h
  by_cases h2 : y = 256
  · rw [ra hs h2] at h; cases h
  rcases fH (eo B (y - 257) a) with ⟨e2, hn⟩ | ⟨⟨n, a2⟩, hn⟩
  · rw [wo hs (by omega) hn] at h; cases h; exact OS hn
  rcases fH (dr B s.dD a2) with ⟨e2, hf⟩ | ⟨⟨f, a3⟩, hf⟩
  · rw [wx hs (by omega) hn hf] at h; cases h; exact LY hf
  by_cases h3 : f ≤ s.out.length
  · rw [wq hs (by omega) hn hf h3] at h; cases h
  · rw [wk hs (by omega) hn hf h3] at h; cases h; decide
theorem Fq {s : St} (h : one B mo s = .error e) : e ≠ 0 := by
  unfold one at h
  split at h
  · exact zh h
  split at h
  · exact GN h
  split at h
  · exact Gt h
  split at h
  · cases h
  split at h
  · cases h; decide
  · exact zh h
theorem Ju {s : St} {w : Nat} {n : Int} {o : Jt} (h : Lp B mo w n s o) : o = .error e → e ≠ 0 := by
  induction h with
  | stop _ => intro h; cases h
  | step _ _ _ _ ih => exact ih
  | fail _ _ h => intro q; cases q; exact Fq h
theorem L5 {s : St} {o : Oc} (h : jb B mo s o) : o = .error e → e ≠ 0 := by
  induction h with
  | done _ => intro h; cases h
  | step _ _ _ ih => exact ih
  | fail _ h => intro q; cases q; exact Fq h
end
def Ek (B : List Int) : Jt → Nat
  | .ok s => mu B s + 1
  | .error _ => 0
def BZ : Jt → Nat
  | .ok s => s.out.length
  | .error _ => 0
theorem F9 {B : List Int} {mo : Int} {r : Jt} (hB : ak B) (hok : vh B mo r) (n : Int) : ∃ r', Cb B mo n r r' := by
  by_cases hn : n < 1
  · exact ⟨r, .inl ⟨.inl hn, rfl⟩⟩
  cases r with
  | error e => exact ⟨_, .inl ⟨.inr rfl, rfl⟩⟩
  | ok s =>
    cases he : s.ended with
    | true => exact ⟨_, .inl ⟨.inr he, rfl⟩⟩
    | false =>
      obtain ⟨o, ho⟩ := Tn hB s.out.length n _ (Nat.le_refl _) hok
      exact ⟨o, .inr ⟨by omega, s, rfl, he, ho⟩⟩
structure S6 (B : List Int) (mo : Int) (s0 : St) (n : Int) (r r' : Jt) : Prop where
  ok : vh B mo r'
  at_ : Dl B mo s0 r'
  le : Ek B r' ≤ Ek B r
  less : jN r = false → 1 ≤ n → Ek B r' < Ek B r
  out : jN r = false → 1 ≤ n → jN r' = true ∨ BZ r + 1 ≤ BZ r'
  stay : (n < 1 ∨ jN r = true) → r' = r
theorem BJ {B : List Int} {mo n : Int} {s0 : St} {r r' : Jt} (hB : ak B) (hok : vh B mo r) (hat : Dl B mo s0 r) (h : Cb B mo n r r') : S6 B mo s0 n r r' := by
  rcases h with ⟨hx, rfl⟩ | ⟨hn, s, rfl, he, hl⟩
  · refine ⟨hok, hat, Nat.le_refl _, fun h1 h2 => ?_, fun h1 h2 => ?_, fun _ => rfl⟩ <;> (exfalso; rcases hx with hx | hx; omega; rw [h1] at hx; cases hx)
  · obtain ⟨k1, k2⟩ := KT hB hl hok
    cases r' with
    | ok s2 =>
      obtain ⟨m1, m2, m3, m4, m5, m6⟩ := k1 s2 rfl
      have := m5 he (by omega)
      refine ⟨m1, hat.trans m3, by show mu B s2 + 1 ≤ mu B s + 1; omega, fun _ _ => by show mu B s2 + 1 < mu B s + 1; omega, fun _ _ => ?_, fun hx => ?_⟩
      · rcases m4 with m4 | m4
        · exact .inl m4
        · right; show s.out.length + 1 ≤ s2.out.length; omega
      · exfalso; rcases hx with hx | hx
        · omega
        · rw [show jN (.ok s) = s.ended from rfl, he] at hx; cases hx
    | error e =>
      refine ⟨Ju hl rfl, hat _ (k2 e rfl), Nat.zero_le _, fun _ _ => Nat.succ_pos _, fun _ _ => .inl rfl, fun hx => ?_⟩
      exfalso; rcases hx with hx | hx
      · omega
      · rw [show jN (.ok s) = s.ended from rfl, he] at hx; cases hx
def iS (B : List Int) (mo : Int) (q : List Int × Int × Int) : Prop := (mo < 0 ∧ q = ([], 0, 1)) ∨ (0 ≤ mo ∧ ∃ o, jb B mo start o ∧ q = Ou o)
theorem iS.Fv {B : List Int} {mo : Int} {q q' : List Int × Int × Int} (h : iS B mo q) (h' : iS B mo q') : q = q' := by
  rcases h with ⟨a, rfl⟩ | ⟨a, o, r, rfl⟩ <;> rcases h' with ⟨a', rfl⟩ | ⟨a', o', r', rfl⟩
  · rfl
  · omega
  · omega
  · rw [r.Fv r']
theorem KZ {B : List Int} {mo : Int} {r : Jt} (hm : 0 ≤ mo) (h : Dl B mo start r) (he : jN r = true) : iS B mo (py r, qS r, Ci r) := by
  refine .inr ⟨hm, ?_⟩
  cases r with
  | ok s => exact ⟨.ok (s.out, (s.at_ + 7) / 8), h _ (.done he), by simp only [py, qS, Ci, Ou]; rw [if_pos (show s.ended = true from he), if_pos (show s.ended = true from he)]⟩
  | error e => exact ⟨.error e, h, rfl⟩
theorem DF {B : List Int} {mo : Int} (hB : ak B) {s : St} {o : Oc} (h : jb B mo s o) : Ok B mo s → ∀ x n, o = .ok (x, n) → (x.length : Int) ≤ mo ∧ n ≤ B.length ∧ ak x := by
  induction h with
  | done h => intro hok x n e; cases e; exact ⟨hok.room, by have := hok.at_; omega, hok.oH⟩
  | step h1 h2 h3 ih => intro hok; exact ih (kN hB hok h2).ok
  | fail _ _ => intro _ x n e; cases e
end Go.ad
namespace Go.ad
open Go.af Go.ae
def ZW (mo : Int) : Jt := if mo < 0 then .error 1 else .ok start
structure Way (B : List Int) (mo : Int) (r : Jt) : Prop where
  ok : vh B mo r
  at_ : (0 ≤ mo ∧ Dl B mo start r) ∨ (mo < 0 ∧ r = .error 1)
structure ZS (B : List Int) (mo n : Int) (r r' : Jt) : Prop where
  way : Way B mo r'
  out : jN r = false → 1 ≤ n → jN r' = true ∨ BZ r + 1 ≤ BZ r'
  stay : (n < 1 ∨ jN r = true) → r' = r
end Go.ad
namespace Go.ad
open Go.af Go.ae
end Go.ad
namespace Go.ad
open Go.af Go.ae
def ZM : List Int := [3, 4, 5, 6, 7, 8, 9, 10, 11, 13, 15, 17, 19, 23, 27, 31, 35, 43, 51, 59, 67, 83, 99, 115, 131, 163, 195, 227, 258]
def ZP : List Int := [0, 0, 0, 0, 0, 0, 0, 0, 1, 1, 1, 1, 2, 2, 2, 2, 3, 3, 3, 3, 4, 4, 4, 4, 5, 5, 5, 5, 0]
structure Dn (B : List Int) (mo : Int) (S S' : St) : Prop where
 CI : gm B mo S S'
 ok : Ok B mo S'
 kind : S'.kind = -1
 ax : S'.ax = 0
 ended : S'.ended = S'.last
 last : S'.last = S.last
structure In (B : List Int) (mo : Int) (S s : St) : Prop where
 CI : gm B mo S s
 ok : Ok B mo s
 kind : s.kind = S.kind
 ax : s.ax = 0
 ended : s.ended = false
 last : s.last = S.last
 lits : s.lits = S.lits
 dD : s.dD = S.dD
section
variable {B : List Int} {mo e : Int} {S s s2 : St}
end
end Go.ad
namespace Go.ad
open Go.af Go.ae
inductive Bl (B : List Int) (mo : Int) : St → Except Int St → Prop
 | done {s : St} : s.kind = -1 → Bl B mo s (.ok s)
 | step {s s' : St} {o : Except Int St} : ¬ s.kind = -1 → one B mo s = .ok s' → Bl B mo s' o → Bl B mo s o
 | fail {s : St} {e : Int} : ¬ s.kind = -1 → one B mo s = .error e → Bl B mo s (.error e)
section
variable {B : List Int} {mo e : Int} {s s2 : St} {o : Except Int St}
structure Left (B : List Int) (mo : Int) (s s2 : St) : Prop where
 CI : gm B mo s s2
 ok : Ok B mo s2
 kind : s2.kind = -1
 ax : s2.ax = 0
 ended : s2.ended = s2.last
 last : s2.last = s.last
 less : mu B s2 ≤ mu B s
end
def BO (B : List Int) (mo : Int) (S : St) (o : Except Int St) : Prop := (∃ e, cG B S = .error e ∧ o = .error e) ∨ (∃ S1, cG B S = .ok S1 ∧ Bl B mo S1 o)
section
variable {B : List Int} {mo e : Int} {S S1 : St} {o : Except Int St}
end
section
variable {B ds : List Int} {s d : Int} {a a3 n : Nat}
end
end Go.ad
namespace Go.ad
end Go.ad
namespace Go.ad
end Go.ad
namespace Go.ad
open Go.af
end Go.ad
namespace Go.ad
open Go.af Go.ae
def run (B : List Int) (mo : Int) : Nat → St → Option Oc
  | 0, _ => none
  | f + 1, s => if s.ended = true then some (.ok (s.out, (s.at_ + 7) / 8)) else match one B mo s with
    | .error e => some (.error e)
    | .ok s' => run B mo f s'
def Z8 (B : List Int) (mo : Int) (f : Nat) (q : List Int × Int × Int) : Bool := match run B mo f start with
  | some o => decide (Ou o = q)
  | none => false
end Go.ad
namespace Go.ad
end Go.ad
namespace Go.ad
open Go.af Go.ae
section
variable {B : List Int} {mo mo' y : Int} {s s2 : St}
theorem xX (h : dU mo s y = .ok s2) : ((s2.out.length : Int) ≤ mo' → dU mo' s y = .ok s2) ∧ (mo' < s2.out.length → dU mo' s y = .error 6) := by
  obtain ⟨k, rfl⟩ := pW h
  have hl : ({ s with out := s.out ++ [y] } : St).out.length = s.out.length + 1 := by simp
  rw [hl]
  exact ⟨fun h => lU (by omega), fun h => mi (by omega)⟩
theorem GB (h : dV B mo s = .ok s2) (hs : (s.out.length : Int) ≤ mo') : ((s2.out.length : Int) ≤ mo' → dV B mo' s = .ok s2) ∧ (mo' < s2.out.length → dV B mo' s = .error 6) := by
  rcases fH (sym s.lits B s.at_) with ⟨e, h1⟩ | ⟨⟨y, a⟩, h1⟩
  · rw [wj h1] at h; cases h
  by_cases hy : y < 256
  · rw [nC h1 hy] at h ⊢; exact xX h
  by_cases hy2 : y = 256
  · rw [ra h1 hy2] at h ⊢; cases h; exact ⟨fun _ => rfl, fun k => by simp only at k; omega⟩
  rcases fH (eo B (y - 257) a) with ⟨e, hn⟩ | ⟨⟨n, a2⟩, hn⟩
  · rw [wo h1 (by omega) hn] at h; cases h
  rcases fH (dr B s.dD a2) with ⟨e, hf⟩ | ⟨⟨f, a3⟩, hf⟩
  · rw [wx h1 (by omega) hn hf] at h; cases h
  by_cases hfo : f ≤ s.out.length
  · rw [wq h1 (by omega) hn hf hfo] at h ⊢; cases h; exact ⟨fun _ => rfl, fun k => by simp only at k; omega⟩
  · rw [wk h1 (by omega) hn hf hfo] at h; cases h
theorem xD (h : one B mo s = .ok s2) (hs : (s.out.length : Int) ≤ mo') : ((s2.out.length : Int) ≤ mo' → one B mo' s = .ok s2) ∧ (mo' < s2.out.length → one B mo' s = .error 6) := by
  by_cases hc : 0 < s.ax
  · unfold one at h ⊢; rw [if_pos hc] at h ⊢; exact xX h
  by_cases hk : s.kind = -1
  · rw [ug hc hk] at h ⊢
    refine ⟨fun _ => h, fun k => ?_⟩
    exfalso
    have : s2.out = s.out := by
      unfold cG at h
      split at h
      · cases h
      split at h
      · split at h
        · cases h
        split at h
        · cases h; rfl
        · cases h
      split at h
      · cases h; rfl
      split at h
      · split at h
        · cases h
        · cases h; rfl
      · cases h
    rw [this] at k; omega
  by_cases hk0 : s.kind = 0
  · by_cases hl : s.left = 0
    · rw [tY hc hk hk0 hl] at h ⊢; cases h; exact ⟨fun _ => rfl, fun k => by simp only at k; omega⟩
    · by_cases hx : 8 * B.length < s.at_ + 8
      · rw [yB hc hk hk0 hl hx] at h; cases h
      · rw [sT hc hk hk0 hl (by omega)] at h ⊢; exact xX h
  · rw [wi hc hk hk0] at h ⊢; exact GB h hs
theorem Bg {o : Oc} (hB : ak B) (h : jb B mo s o) : Ok B mo s → ∀ x n, o = .ok (x, n) → s.out.length ≤ x.length ∧ ((x.length : Int) ≤ mo' → jb B mo' s (.ok (x, n))) ∧ ((s.out.length : Int) ≤ mo' → mo' < x.length → jb B mo' s (.error 6)) := by
  induction h with
  | done h => intro hok x n e; cases e; exact ⟨Nat.le_refl _, fun _ => .done h, fun h1 h2 => by omega⟩
  | step h1 h2 h3 ih =>
    intro hok x n e
    have hg := kN hB hok h2
    obtain ⟨k1, k2, k3⟩ := ih hg.ok x n e
    have hle := hg.le
    refine ⟨by omega, fun k => .step h1 ((xD h2 (by omega)).1 (by omega)) (k2 k), fun q1 q2 => ?_⟩
    rename_i s' _
    by_cases hc : mo' < s'.out.length
    · exact .fail h1 ((xD h2 q1).2 hc)
    · exact .step h1 ((xD h2 q1).1 (by omega)) (k3 (by omega) q2)
  | fail _ _ => intro _ x n e; cases e
end
end Go.ad
namespace Go.ad
open Go.af Go.ae
section
variable {B : List Int}
theorem iA (j i : Nat) (hi : i < 8) : hH B (8 * j + i) = B.getD j 0 / 2 ^ i % 2 := by
 unfold hH
 rw [show (8 * j + i) / 8 = j by omega, show (8 * j + i) % 8 = i by omega]
theorem tO (a m : Nat) : ∀ n, aK B a (m + n) = aK B a m + aK B (a + m) n * 2 ^ m
 | 0 => by simp [aK]
 | n + 1 => by
  have := tO a m n
  show aK B a (m + n) + hH B (a + (m + n)) * 2 ^ (m + n) = aK B a m + (aK B (a + m) n + hH B (a + m + n) * 2 ^ n) * 2 ^ m
  rw [this, Int.add_mul, Int.add_assoc, Nat.add_assoc a m n, Int.mul_assoc, ← Int.pow_add, Nat.add_comm n m]
theorem yL {j : Nat} (hb : 0 ≤ B.getD j 0 ∧ B.getD j 0 < 256) : aK B (8 * j) 8 = B.getD j 0 := by
 simp only [aK]
 rw [show 8 * j + 0 = 8 * j + 0 from rfl, iA j 0 (by omega), iA j 1 (by omega), iA j 2 (by omega), iA j 3 (by omega), iA j 4 (by omega), iA j 5 (by omega), iA j 6 (by omega), iA j 7 (by omega)]
 generalize B.getD j 0 = b at hb ⊢
 simp only [show (2 : Int) ^ 0 = 1 from rfl, show (2 : Int) ^ 1 = 2 from rfl, show (2 : Int) ^ 2 = 4 from rfl, show (2 : Int) ^ 3 = 8 from rfl, show (2 : Int) ^ 4 = 16 from rfl, show (2 : Int) ^ 5 = 32 from rfl, show (2 : Int) ^ 6 = 64 from rfl, show (2 : Int) ^ 7 = 128 from rfl]
 omega
theorem Az {j : Nat} (hb : 0 ≤ B.getD j 0 ∧ B.getD j 0 < 256) (hc : 0 ≤ B.getD (j + 1) 0 ∧ B.getD (j + 1) 0 < 256) : aK B (8 * j) 16 = B.getD j 0 + 256 * B.getD (j + 1) 0 := by
 rw [show (16 : Nat) = 8 + 8 from rfl, tO, yL hb, show 8 * j + 8 = 8 * (j + 1) by omega, yL hc]
 omega
theorem Hc {mo : Int} (hB : ak B) : ∀ (X : List Int) {s : St} {pos : Nat}, s.kind = 0 → s.ax = 0 → s.ended = false → s.left = X.length → s.at_ = 8 * pos → (∀ i, i < X.length → B.getD (pos + i) 0 = X.getD i 0) → pos + X.length ≤ B.length → (s.out.length : Int) + X.length ≤ mo →
  ∃ s', gm B mo s s' ∧ s'.at_ = 8 * (pos + X.length) ∧ s'.out = s.out ++ X ∧ s'.kind = -1 ∧ s'.ax = 0 ∧ s'.ended = s.last := by
 intro X
 induction X with
 | nil =>
  intro s pos hk hc he hl ha hx hp hm
  have h1 := tY (B := B) (mo := mo) (s := s) (by omega) (by omega) hk hl
  exact ⟨_, gm.one he h1, by simpa using ha, by simp, rfl, hc, rfl⟩
 | cons x X ih =>
  intro s pos hk hc he hl ha hx hp hm
  have hx0 : B.getD pos 0 = x := by simpa using hx 0 (by simp)
  have hp2 : pos + (X.length + 1) ≤ B.length := by simpa using hp
  have hl2 : s.left = X.length + 1 := by simpa using hl
  have hm2 : (s.out.length : Int) + (X.length + 1) ≤ mo := by simpa using hm
  have h1 := Fu (B := B) (mo := mo) (s := s) (by omega) (by omega) hk (by omega) (by omega) (by omega)
  rw [ha, yL (hB.get pos), hx0] at h1
  obtain ⟨s', g, a1, a2, a3, a4, a5⟩ := ih (s := { s with at_ := 8 * pos + 8, left := s.left - 1, out := s.out ++ [x] }) (pos := pos + 1) hk hc he (by show s.left - 1 = X.length; omega) (by show 8 * pos + 8 = 8 * (pos + 1); omega) (fun i hi => by
   have := hx (i + 1) (by simp; omega)
   rw [show pos + 1 + i = pos + (i + 1) by omega, this]; simp) (by omega) (by show ((s.out ++ [x]).length : Int) + X.length ≤ mo; simp; omega)
  exact ⟨s', (gm.one he h1).trans g, by rw [a1]; simp; omega, by rw [a2]; simp, a3, a4, a5⟩
def fc (la : Int) (X : List Int) : List Int := [la, (X.length : Int) % 256, (X.length : Int) / 256, 255 - (X.length : Int) % 256, 255 - (X.length : Int) / 256] ++ X
theorem kf (la : Int) (X : List Int) : (fc la X).length = 5 + X.length := by simp [fc]; omega
theorem vM {mo : Int} (hB : ak B) {s : St} {pos : Nat} {la : Int} {X : List Int} (hla : la = 0 ∨ la = 1) (hX : X.length ≤ 65535) (hk : s.kind = -1) (hc : s.ax = 0) (he : s.ended = false) (ha : s.at_ = 8 * pos) (hx : ∀ i, i < (fc la X).length → B.getD (pos + i) 0 = (fc la X).getD i 0) (hp : pos + (fc la X).length ≤ B.length) (hm : (s.out.length : Int) + X.length ≤ mo) :
  ∃ s', gm B mo s s' ∧ s'.at_ = 8 * (pos + (fc la X).length) ∧ s'.out = s.out ++ X ∧ s'.kind = -1 ∧ s'.ax = 0 ∧ s'.ended = decide (la = 1) := by
 have hbl := kf la X
 have b0 : B.getD pos 0 = la := by simpa [fc] using hx 0 (by omega)
 have b1 : B.getD (pos + 1) 0 = (X.length : Int) % 256 := by simpa [fc] using hx 1 (by omega)
 have b2 : B.getD (pos + 2) 0 = (X.length : Int) / 256 := by simpa [fc] using hx 2 (by omega)
 have b3 : B.getD (pos + 3) 0 = 255 - (X.length : Int) % 256 := by simpa [fc] using hx 3 (by omega)
 have b4 : B.getD (pos + 4) 0 = 255 - (X.length : Int) / 256 := by simpa [fc] using hx 4 (by omega)
 have e0 : aK B s.at_ 1 = la := by
  rw [ha, xF, show 8 * pos = 8 * pos + 0 from rfl, iA pos 0 (by omega), b0]
  rcases hla with rfl | rfl <;> rfl
 have e1 : aK B (s.at_ + 1) 2 = 0 := by
  rw [ha]
  simp only [aK]
  rw [show 8 * pos + 1 + 0 = 8 * pos + 1 from rfl, show 8 * pos + 1 + 1 = 8 * pos + 2 from rfl, iA pos 1 (by omega), iA pos 2 (by omega), b0]
  rcases hla with rfl | rfl <;> rfl
 have hal : cR (s.at_ + 3) = 8 * (pos + 1) := by rw [wL, ha]; omega
 have n1 : aK B (cR (s.at_ + 3)) 16 = (X.length : Int) := by rw [hal, Az (hB.get _) (hB.get _), b1, show pos + 1 + 1 = pos + 2 from rfl, b2]; omega
 have n2 : aK B (cR (s.at_ + 3) + 16) 16 = 65535 - (X.length : Int) := by rw [hal, show 8 * (pos + 1) + 16 = 8 * (pos + 3) by omega, Az (hB.get _) (hB.get _), b3, show pos + 3 + 1 = pos + 4 from rfl, b4]; omega
 have hb := ye (B := B) (s := s) (by omega) e1 (by omega) (by rw [n1, n2]; omega)
 have h1 := (ug (B := B) (mo := mo) (s := s) (by omega) hk).trans hb
 rw [n1, e0, hal] at h1
 obtain ⟨s', g, a1, a2, a3, a4, a5⟩ := Hc (mo := mo) hB X (s := { s with at_ := 8 * (pos + 1) + 32, kind := 0, left := ((X.length : Int)).toNat, last := decide (la = 1) }) (pos := pos + 5) rfl hc he (by show ((X.length : Int)).toNat = X.length; omega) (by show 8 * (pos + 1) + 32 = 8 * (pos + 5); omega) (fun i hi => by
  have := hx (5 + i) (by omega)
  rw [show pos + 5 + i = pos + (5 + i) by omega, this]; simp [fc, Nat.add_comm 5 i]) (by omega) hm
 exact ⟨s', (gm.one he h1).trans g, by rw [a1]; omega, a2, a3, a4, a5⟩
def fg : List (List Int) → List Int
 | [] => []
 | [X] => fc 1 X
 | X :: Y :: L => fc 0 X ++ fg (Y :: L)
theorem yJ (a b : List Int) (i : Nat) (h : i < a.length) : (a ++ b).getD i 0 = a.getD i 0 := by
 rw [List.getD_eq_getElem?_getD, List.getElem?_append_left h, ← List.getD_eq_getElem?_getD]
theorem cU (a b : List Int) (i : Nat) : (a ++ b).getD (a.length + i) 0 = b.getD i 0 := by
 rw [List.getD_eq_getElem?_getD, List.getElem?_append_right (by omega), Nat.add_sub_cancel_left, ← List.getD_eq_getElem?_getD]
theorem F1 {mo : Int} (hB : ak B) : ∀ (L : List (List Int)) {s : St} {pos : Nat}, L ≠ [] → (∀ X ∈ L, X.length ≤ 65535) → s.kind = -1 → s.ax = 0 → s.ended = false → s.at_ = 8 * pos → (∀ i, i < (fg L).length → B.getD (pos + i) 0 = (fg L).getD i 0) → pos + (fg L).length ≤ B.length → (s.out.length : Int) + L.flatten.length ≤ mo →
  ∃ s', gm B mo s s' ∧ s'.at_ = 8 * (pos + (fg L).length) ∧ s'.out = s.out ++ L.flatten ∧ s'.ended = true := by
 intro L
 induction L with
 | nil => intro s pos h; exact (h rfl).elim
 | cons X L ih =>
  intro s pos _ hL hk hc he ha hx hp hm
  cases L with
  | nil =>
   obtain ⟨s', g, a1, a2, a3, a4, a5⟩ := vM (mo := mo) hB (.inr rfl) (hL X (List.mem_cons_self ..)) hk hc he ha hx hp (by simpa using hm)
   exact ⟨s', g, a1, by simpa using a2, a5⟩
  | cons Y L =>
   have hlen : (fg (X :: Y :: L)).length = (fc 0 X).length + (fg (Y :: L)).length := by simp [fg]
   have hfl : (X :: Y :: L).flatten.length = X.length + (Y :: L).flatten.length := by simp
   obtain ⟨s', g, a1, a2, a3, a4, a5⟩ := vM (mo := mo) hB (.inl rfl) (hL X (List.mem_cons_self ..)) hk hc he ha (fun i hi => by rw [hx i (by omega)]; exact yJ _ _ _ hi) (by omega) (by omega)
   obtain ⟨s2, g2, c1, c2, c3⟩ := ih (s := s') (pos := pos + (fc 0 X).length) (by simp) (fun Z hZ => hL Z (List.mem_cons_of_mem _ hZ)) a3 a4 (by rw [a5]; rfl) a1 (fun i hi => by
    rw [show pos + (fc 0 X).length + i = pos + ((fc 0 X).length + i) by omega, hx _ (by omega)]; exact cU _ _ _) (by omega) (by rw [a2]; simp only [List.length_append]; omega)
   exact ⟨s2, g.trans g2, by rw [c1, hlen]; omega, by rw [c2, a2]; simp, c3⟩
end
theorem xK {la : Int} {X : List Int} (hla : la = 0 ∨ la = 1) (hX : X.length ≤ 65535) (h : ak X) : ak (fc la X) := by
 intro x hx
 unfold fc at hx
 rcases List.mem_append.1 hx with hx | hx
 ·simp only [List.mem_cons, List.not_mem_nil, or_false] at hx
  rcases hx with rfl | rfl | rfl | rfl | rfl <;> omega
 ·exact h x hx
theorem si : ∀ (L : List (List Int)), (∀ X ∈ L, X.length ≤ 65535 ∧ ak X) → ak (fg L)
 | [], _ => fun x hx => by cases hx
 | [X], h => xK (.inr rfl) (h X (List.mem_cons_self ..)).1 (h X (List.mem_cons_self ..)).2
 | X :: Y :: L, h => fun x hx => by
  rcases List.mem_append.1 hx with hx | hx
  ·exact xK (.inl rfl) (h X (List.mem_cons_self ..)).1 (h X (List.mem_cons_self ..)).2 x hx
  ·exact si (Y :: L) (fun Z hZ => h Z (List.mem_cons_of_mem _ hZ)) x hx
theorem HH {L : List (List Int)} (hne : L ≠ []) (hL : ∀ X ∈ L, X.length ≤ 65535 ∧ ak X) {t : List Int} (ht : ak t) : iS (fg L ++ t) L.flatten.length (L.flatten, ((fg L).length : Int), 0) ∧ ∀ mo : Int, 0 ≤ mo → mo < L.flatten.length → iS (fg L ++ t) mo ([], 0, 6) := by
 have hB : ak (fg L ++ t) := fun x hx => by
  rcases List.mem_append.1 hx with hx | hx
  ·exact si L hL x hx
  ·exact ht x hx
 obtain ⟨s', g, a1, a2, a3⟩ := F1 (mo := L.flatten.length) hB L (s := start) (pos := 0) hne (fun X hX => (hL X hX).1) rfl rfl rfl rfl (fun i hi => by rw [Nat.zero_add]; exact yJ _ _ _ hi) (by rw [List.length_append]; omega) (by show ((0 : Nat) : Int) + _ ≤ _; omega)
 have hr : jb (fg L ++ t) L.flatten.length start (.ok (L.flatten, (fg L).length)) := by
  have := g _ (.done a3)
  rw [a2, a1, show (8 * (0 + (fg L).length) + 7) / 8 = (fg L).length by omega, show start.out ++ L.flatten = L.flatten from rfl] at this
  exact this
 refine ⟨.inr ⟨by omega, _, hr, rfl⟩, fun mo h0 h1 => ?_⟩
 have hm := (Bg (mo' := mo) hB hr (og (by omega)) _ _ rfl).2.2 (by show ((0 : Nat) : Int) ≤ mo; omega) h1
 exact .inr ⟨h0, _, hm, rfl⟩
def NQ (L : List (List Int)) : Nat → List Int
 | 0 => []
 | i + 1 => NQ L i ++ fc (if i + 1 = L.length then 1 else 0) (L.getD i [])
end Go.ad
namespace Go.ad
open Go.af Go.ae
structure Bk (L : List (List Int)) (i : Nat) : Prop where
 le : i ≤ L.length
 Y5 : ∀ j, j < i → (L.getD j []).length ≤ 1000
 oH : ∀ j, j < i → ak (L.getD j [])
 Z9 : (L.take i).flatten.length ≤ 1000 * i
 Z3 : (NQ L i).length ≤ 1005 * i
end Go.ad
namespace Go.af
structure Po (bs : List Int) (i : Nat) (o : List Int) : Prop where
 len : o.length = (bs.length + 7) / 8
 oH : ak o
 get : ∀ k, k < i → hH o k = bs.getD k 0
 zero : ∀ k, i ≤ k → hH o k = 0
end Go.af
namespace Go.ad
open Go.af Go.ae
def fxX (s : Int) : Int := if 280 ≤ s then 192 + s - 280 else if 256 ≤ s then s - 256 else if 144 ≤ s then 400 + s - 144 else 48 + s
def fxN (s : Int) : Nat := if 280 ≤ s then 8 else if 256 ≤ s then 7 else if 144 ≤ s then 9 else 8
structure Pq (bs o : List Int) : Prop where
 oH : ak o
 len : bs.length ≤ 8 * o.length
 get : ∀ i, i < bs.length → hH o i = bs.getD i 0
section
variable {bs o u w r out : List Int} {mo s y d : Int} {z : St}
structure Rd (o : List Int) (mo : Int) (z : St) (a : Nat) (out : List Int) : Prop where
 CI : gm o mo start z
 at_ : z.at_ = a
 out : z.out = out
 kind : z.kind = 1
 ax : z.ax = 0
 ended : z.ended = false
 last : z.last = true
 lits : z.lits = fb
 dD : z.dD = kz
def RX (d : Nat) : Nat → List Int → List Int
 | 0, l => l
 | k + 1, l => RX d k (l ++ [l.getD (l.length - d) 0])
def ib (n d : Int) : List Int := wb fb (254 + n) ++ wb kz (d - 1)
end
def Jh (d : Int) : List Int → List Int
 | [] => []
 | m :: l => ib (3 + m % 8) d ++ Jh d l
def TI (d : Int) : List Int → List Int → List Int
 | [], out => out
 | m :: l, out => TI d l (RX d.toNat (3 + m % 8).toNat out)
def ZF (head : List Int) (d : Int) (l : List Int) : List Int := kQ 3 3 ++ ae.bits fb head ++ Jh d l
end Go.ad
namespace Go.ad
open Go.af Go.ae
theorem gR {l : List Int} {i : Nat} (h : i < l.length) : l.take (i + 1) = l.take i ++ [l.getD i 0] := by
 rw [List.take_succ_eq_append_getElem h]
 simp [List.getD_eq_getElem?_getD, h]
def B01 (l : List Int) : Prop := ∀ x ∈ l, 0 ≤ x ∧ x ≤ 1
end Go.ad
namespace Go.ad
open Go.af Go.ae
end Go.ad
namespace Go.aJ
open Go.af Go.ae Go.ad
def x3 (x y z : Int) : Int := IntKind.u32.wrap ((BitVec.ofInt IntKind.u32.bits (IntKind.u32.wrap ((BitVec.ofInt IntKind.u32.bits (IntKind.u32.wrap (x * 2 ^ (min (16 : Int).toNat IntKind.u32.bits))) ||| BitVec.ofInt IntKind.u32.bits (IntKind.u32.wrap (y * 2 ^ (min (8 : Int).toNat IntKind.u32.bits)))).toNat : Int)) ||| BitVec.ofInt IntKind.u32.bits z).toNat : Int)
def mL (x y z : Int) : Int := (IntKind.u32.wrap (x3 x y z * 2654435761)).fdiv (2 ^ (min (19 : Int).toNat IntKind.u32.bits))
def hs (B : List Int) (a : Nat) : Int := mL (B.getD a 0) (B.getD (a + 1) 0) (B.getD (a + 2) 0)
structure Fd where
 hd : List Int
 nx : List Int
def Nz (B : List Int) (f : Fd) (a : Nat) : Fd := if B.length < a + 3 then f else ⟨f.hd.set (hs B a).toNat (a : Int), f.nx.set a (f.hd.getD (hs B a).toNat 0)⟩
def BX (B : List Int) (f : Fd) (a : Nat) : Nat → Fd
 | 0 => f
 | k + 1 => Nz B (BX B f a k) (a + k)
def CF (B : List Int) (old a : Nat) : Nat → Nat → Nat
 | 0, n => n
 | f + 1, n => if a + n < B.length ∧ B.getD (old + n) 0 = B.getD (a + n) 0 then CF B old a f (n + 1) else n
def WV (B : List Int) (old a : Nat) : Nat := CF B old a 258 0
def th (B nx : List Int) (a : Nat) : Nat → Int → Int → Int → Int × Int
 | 0, _, n, bA => (n, bA)
 | t + 1, old, n, bA => if old = -1 ∨ 32768 < (a : Int) - old then (n, bA) else
  if n < (WV B old.toNat a : Int) then th B nx a t (nx.getD old.toNat 0) (WV B old.toNat a) ((a : Int) - old) else th B nx a t (nx.getD old.toNat 0) n bA
def rb (B : List Int) (f : Fd) (a : Nat) : Int × Int := if B.length < a + 3 then (0, 0) else th B f.nx a 24 (f.hd.getD (hs B a).toNat 0) 0 0
structure cX where
 lit : Int
 n : Int
 bA : Int
def wD (B : List Int) : Nat → Fd → Nat → List cX
 | 0, _, _ => []
 | q + 1, f, a => if a < B.length then
   (if (rb B f a).1 < 3 then ⟨B.getD a 0, 0, 0⟩ :: wD B q (BX B f a 1) (a + 1)
    else ⟨0, (rb B f a).1, (rb B f a).2⟩ :: wD B q (BX B f a (rb B f a).1.toNat) (a + (rb B f a).1.toNat)) else []
def Ys (B : List Int) : Fd := ⟨List.replicate 8192 (-1), List.replicate B.length 0⟩
def uJ (B : List Int) : List cX := wD B B.length (Ys B) 0
structure Alk (B : List Int) (old a n : Nat) : Prop where
 le : n ≤ 258
 room : a + n ≤ B.length ∨ n = 0
 same : ∀ i, i < n → B.getD (old + i) 0 = B.getD (a + i) 0
structure Fok (B : List Int) (n : Nat) (f : Fd) : Prop where
 hl : f.hd.length = 8192
 nl : f.nx.length = B.length
 h : ∀ i, i < 8192 → -1 ≤ f.hd.getD i 0 ∧ f.hd.getD i 0 < n
 x : ∀ i, i < B.length → -1 ≤ f.nx.getD i 0 ∧ (f.nx.getD i 0 < n ∨ f.nx.getD i 0 = 0)
structure Fs (B : List Int) (a : Nat) (r : Int × Int) : Prop where
 Yu : (r.1 = 0 ∧ r.2 = 0) ∨ (1 ≤ r.1 ∧ r.1 ≤ 258 ∧ 1 ≤ r.2 ∧ r.2 ≤ 32768 ∧ r.2 ≤ a ∧ a + r.1.toNat ≤ B.length ∧ ∀ i, i < r.1.toNat → B.getD (a - r.2.toNat + i) 0 = B.getD (a + i) 0)
def YR : List cX → List Int → List Int
 | [], o => o
 | t :: l, o => YR l (if t.n = 0 then o ++ [t.lit] else RX t.bA.toNat t.n.toNat o)
structure sR (t : cX) : Prop where
 Yu : (t.n = 0 ∧ t.bA = 0 ∧ 0 ≤ t.lit ∧ t.lit < 256) ∨ (t.lit = 0 ∧ 3 ≤ t.n ∧ t.n ≤ 258 ∧ 1 ≤ t.bA ∧ t.bA ≤ 32768)
inductive tl (B : List Int) : Nat → List cX → Prop
 | nil : tl B B.length []
 | lit {a : Nat} {l : List cX} : a < B.length → tl B (a + 1) l → tl B a (⟨B.getD a 0, 0, 0⟩ :: l)
 | cp {a n d : Nat} {l : List cX} : 3 ≤ n → n ≤ 258 → 1 ≤ d → d ≤ 32768 → d ≤ a → a + n ≤ B.length → (∀ i, i < n → B.getD (a - d + i) 0 = B.getD (a + i) 0) → tl B (a + n) l → tl B a (⟨0, n, d⟩ :: l)
section
variable {B nx : List Int} {a k o : Nat} {old n bA : Int}
end
end Go.aJ
namespace Go.aJ
open Go.af Go.ae Go.ad
def Cc (lim x : Int) : Nat → Nat → Nat
  | 0, m => m
  | f + 1, m => if lim ≤ x / 2 ^ m then Cc lim x f (m + 1) else m
def tK (lim x : Int) : Nat := Cc lim x 16 0
def uI (n : Int) : Int := if n - 3 = 255 then 285 else if n - 3 < 8 then 257 + (n - 3) else 257 + 4 * (tK 8 (n - 3) : Int) + (n - 3) / 2 ^ tK 8 (n - 3)
def Gi (n : Int) : Nat := if n - 3 = 255 then 0 else if n - 3 < 8 then 0 else tK 8 (n - 3)
def G3 (n : Int) : Int := if n - 3 = 255 then 0 else if n - 3 < 8 then 0 else (n - 3) % 2 ^ tK 8 (n - 3)
def uV (f : Int) : Int := if f - 1 < 4 then f - 1 else 2 * (tK 4 (f - 1) : Int) + (f - 1) / 2 ^ tK 4 (f - 1)
def Gf (f : Int) : Nat := if f - 1 < 4 then 0 else tK 4 (f - 1)
def G5 (f : Int) : Int := if f - 1 < 4 then 0 else (f - 1) % 2 ^ tK 4 (f - 1)
structure Mr (lim x : Int) (m : Nat) : Prop where
  lt : x / 2 ^ m < lim
  ge : m = 0 ∨ lim ≤ x / 2 ^ (m - 1)
  le : m ≤ 13
def uz (ls ds : List Int) (t : cX) : List Int := if t.n = 0 then wb ls t.lit else wb ls (uI t.n) ++ kQ (G3 t.n) (Gi t.n) ++ wb ds (uV t.bA) ++ kQ (G5 t.bA) (Gf t.bA)
def qu (ls ds : List Int) (l : List cX) : List Int := l.flatMap (uz ls ds)
structure Fits (ls ds : List Int) (l : List cX) : Prop where
  ok : ∀ t ∈ l, sR t
  lit : ∀ t ∈ l, t.n = 0 → t.lit < ls.length ∧ ns ls t.lit = true
  cp : ∀ t ∈ l, t.n ≠ 0 → uI t.n < ls.length ∧ ns ls (uI t.n) = true ∧ uV t.bA < ds.length ∧ ns ds (uV t.bA) = true
  end_ : (256 : Int) < ls.length ∧ ns ls 256 = true
end Go.aJ
namespace Go.kB
abbrev Pk := Int × List Int
def Vj : List Pk → List Pk
  | a :: b :: l => (a.1 + b.1, a.2 ++ b.2) :: Vj l
  | _ => []
def sy (l : List Pk) (m : Nat) : List Int := (l.take m).flatMap (·.2)
def ON : List Pk → List Pk → List Pk
  | [], P => P
  | A, [] => A
  | a :: A, b :: P => if a.1 ≤ b.1 then a :: ON A (b :: P) else b :: ON (a :: A) P
termination_by A P => A.length + P.length
abbrev pA (l : List Pk) : Prop := l.Pairwise (fun x y => x.1 ≤ y.1)
structure SS (l l' : List Pk) : Prop where
  Zs : pA l'
  Z4 : ∀ c, l'.filter (fun x => decide (x.1 = c)) = l.filter (fun x => decide (x.1 = c))
end Go.kB
namespace Go.kB
def lv (A : List Pk) : Nat → List Pk
  | 0 => []
  | j + 1 => ON A (Vj (lv A j))
def sm (A : List Pk) (i : Nat) : Int := (A.getD i (0, [])).2.headD 0
structure Lf (A : List Pk) : Prop where
  Zs : pA A
  one : ∀ i, i < A.length → (A.getD i (0, [])).2 = [sm A i]
  inj : ∀ i j, i < A.length → j < A.length → sm A i = sm A j → i = j
  pos : ∀ x ∈ A, 0 < x.1
def Hv (A : List Pk) (e : Pk) : Prop := 0 ≤ e.1 ∧ ∀ i, i < A.length → sm A i ∈ e.2 → (A.getD i (0, [])).1 ≤ e.1
def ct (A : List Pk) (j m i : Nat) : Nat := (sy (lv A j) m).count (sm A i)
def Zu (f : Nat → Nat) : Nat → Nat
  | 0 => 0
  | n + 1 => Zu f n + f n
end Go.kB
namespace Go.kB
open Go.ae
def PV (s : Nat → Int) (v : Nat → Int) (base : List Int) : Nat → List Int
  | 0 => base
  | k + 1 => (PV s v base k).set (s k).toNat (v k)
def cs (A : List Pk) (bV : Nat) : List Int := (List.range A.length).map (fun i => (ct A bV (2 * A.length - 2) i : Int))
structure Ln (A : List Pk) (bV : Nat) (vs : List Int) : Prop where
  perm : vs.Perm (cs A bV)
  down : vs.Pairwise (fun x y => y ≤ x)
def out (A : List Pk) (vs : List Int) (L : Nat) : List Int := PV (sm A) (fun i => vs.getD i 0) (List.replicate L 0) A.length
structure Good (A : List Pk) (bV L : Nat) (o : List Int) : Prop where
  len : o.length = L
  leaf : ∀ i, i < A.length → 1 ≤ o.getD (sm A i).toNat 0 ∧ o.getD (sm A i).toNat 0 ≤ bV
  rest : ∀ x, (∀ i, i < A.length → (sm A i).toNat ≠ x) → o.getD x 0 = 0
  down : ∀ i j, i ≤ j → j < A.length → o.getD (sm A j).toNat 0 ≤ o.getD (sm A i).toNat 0
  code : a8 o = 0
end Go.kB
namespace Go.kB
open Go.ae
def RM (fr : List Int) (k : Nat) : List Pk := ((List.range k).filter (fun i => decide (0 < fr.getD i 0))).map (fun i : Nat => (fr.getD i 0, [(i : Int)]))
def cO (L : Nat) (X : List Int) : List Int := (List.range L).map (fun k : Nat => (X.count (k : Int) : Int))
structure Uo (fr : List Int) (bV : Nat) (o : List Int) : Prop where
 len : o.length = fr.length
 code : a8 o = 0
 pos : ∀ i, i < fr.length → 0 < fr.getD i 0 → 1 ≤ o.getD i 0 ∧ o.getD i 0 ≤ bV
 zero : ∀ i, i < fr.length → ¬ 0 < fr.getD i 0 → o.getD i 0 = 0
 one : (RM fr fr.length).length = 1 → ∀ i, o.getD i 0 ≤ 1
 down : ∀ i k, i < fr.length → k < fr.length → fr.getD k 0 < fr.getD i 0 → 0 < fr.getD k 0 → o.getD i 0 ≤ o.getD k 0
end Go.kB
namespace Go.kB
open Go.ae
def Sf (x : Pk) : List Pk → List Pk
  | [] => [x]
  | y :: ys => if x.1 ≤ y.1 then x :: y :: ys else y :: Sf x ys
def FU : List Pk → List Pk
  | [] => []
  | x :: xs => Sf x (FU xs)
def uQ (fr : List Int) (bV : Nat) : List Int :=
  match RM fr fr.length with
  | [] => List.replicate fr.length 0
  | [x] => (List.replicate fr.length 0).set (x.2.headD 0).toNat 1
  | l => out (FU l) ((cs (FU l) bV).mergeSort fun x y => decide (x ≤ y)).reverse fr.length
structure ZI (fr : List Int) (bV : Nat) (o : List Int) : Prop extends Uo fr bV o where
  Fv : o = uQ fr bV
end Go.kB
namespace Go.aJ
open Go.af Go.ae Go.ad
def JM (fr : List Int) : Nat → Int
  | 0 => 0
  | k + 1 => if JM fr k < fr.getD k 0 then fr.getD k 0 else JM fr k
def P5 (x : Int) : Nat → Nat → Nat
  | 0, m => m
  | f + 1, m => if 1048576 < x / 2 ^ m then P5 x f (m + 1) else m
def dn (fr : List Int) : Nat := P5 (JM fr fr.length) 16 0
def rr (d : Nat) (x : Int) : Int := if 0 < x then (if 1 < x / 2 ^ d then x / 2 ^ d else 1) else x
def HS (fr : List Int) (d : Nat) : Nat → List Int
  | 0 => fr
  | k + 1 => (HS fr d k).set k (rr d (fr.getD k 0))
def w4 (fr : List Int) : List Int := HS fr (dn fr) fr.length
def xe (l : List Int) (s : Int) : List Int := l.set s.toNat (l.getD s.toNat 0 + 1)
def XP (t : cX) : Int := if t.n = 0 then t.lit else uI t.n
def yQ : List cX → List Int → List Int
  | [], a => a
  | t :: l, a => yQ l (xe a (XP t))
def HJ : List cX → List Int → List Int
  | [], b => b
  | t :: l, b => HJ l (if t.n = 0 then b else xe b (uV t.bA))
def VS : List Int := (List.replicate 286 0).set 256 1
def WE : List Int := List.replicate 30 0
def fA (l : List cX) : List Int := w4 (yQ l VS)
def fB (l : List cX) : List Int := w4 (HJ l WE)
end Go.aJ
namespace Go.aJ
open Go.af Go.ae Go.ad
def il : Nat → List Int → List (List Int)
  | 0, Z => [Z]
  | f + 1, Z => if Z.length ≤ 65535 then [Z] else Z.take 65535 :: il f (Z.drop 65535)
theorem yH : ∀ (f : Nat) (Z : List Int), ∃ X L, il f Z = X :: L
  | 0, Z => ⟨Z, [], rfl⟩
  | f + 1, Z => by
    unfold il
    split
    · exact ⟨_, _, rfl⟩
    · exact ⟨_, _, rfl⟩
theorem sd {Z : List Int} (h : Z.length ≤ 65535) : ∀ f, il f Z = [Z]
  | 0 => rfl
  | f + 1 => if_pos h
theorem sw {Z : List Int} (h : 65535 < Z.length) (f : Nat) : fg (il (f + 1) Z) = fc 0 (Z.take 65535) ++ fg (il f (Z.drop 65535)) := by
  have h0 : il (f + 1) Z = Z.take 65535 :: il f (Z.drop 65535) := if_neg (by omega)
  rw [h0]
  obtain ⟨X, L, e⟩ := yH f (Z.drop 65535)
  rw [e]; rfl
theorem ss : ∀ (f : Nat) (Z : List Int), (il f Z).flatten = Z
  | 0, Z => by simp [il]
  | f + 1, Z => by
    unfold il
    split
    · simp
    · rw [List.flatten_cons, ss f, List.take_append_drop]
theorem pE : ∀ (f : Nat) (Z : List Int), Z.length ≤ 65535 * (f + 1) → ∀ X ∈ il f Z, X.length ≤ 65535
  | 0, Z, h, X, hX => by simp only [il, List.mem_singleton] at hX; subst hX; omega
  | f + 1, Z, h, X, hX => by
    unfold il at hX
    split at hX
    · rw [List.mem_singleton.1 hX]; assumption
    · rcases List.mem_cons.1 hX with rfl | hX
      · rw [List.length_take]; omega
      · exact pE f _ (by rw [List.length_drop]; omega) X hX
theorem LN : ∀ (f : Nat) (Z : List Int), Z.length ≤ 65535 * (f + 1) → (fg (il f Z)).length ≤ Z.length + 5 * (Z.length / 65535 + 1)
  | 0, Z, h => by show (fc 1 Z).length ≤ _; rw [kf]; omega
  | f + 1, Z, h => by
    rcases Nat.lt_or_ge 65535 Z.length with h1 | h1
    · have ih := LN f (Z.drop 65535) (by rw [List.length_drop]; omega)
      rw [sw h1, List.length_append, kf, List.length_take]
      rw [List.length_drop] at ih
      omega
    · rw [sd h1]; show (fc 1 Z).length ≤ _; rw [kf]; omega
theorem x9 : ∀ (f : Nat) (Z : List Int), Z.length ≤ 65535 * (f + 1) → (fg (il f Z)).length = Z.length + 5 * ((Z.length - 1) / 65535 + 1)
  | 0, Z, h => by show (fc 1 Z).length = _; rw [kf]; omega
  | f + 1, Z, h => by
    rcases Nat.lt_or_ge 65535 Z.length with h1 | h1
    · have ih := x9 f (Z.drop 65535) (by rw [List.length_drop]; omega)
      rw [sw h1, List.length_append, kf, List.length_take]
      rw [List.length_drop] at ih
      omega
    · rw [sd h1]; show (fc 1 Z).length = _; rw [kf]; omega
def gI (B : List Int) : List Int := fg (il 64 B)
theorem N2 (B : List Int) : [] ++ fg (il 64 B) = gI B := rfl
theorem GS {O Z B : List Int} {f : Nat} (h : O ++ fg (il f Z) = gI B) (hZ : Z.length ≤ 65535) : O ++ [1, (Z.length : Int) % 256, (Z.length : Int) / 256, 255 - (Z.length : Int) % 256, 255 - (Z.length : Int) / 256] ++ Z = gI B := by
  rw [← h, sd hZ, List.append_assoc]; rfl
theorem Hz {O Z B : List Int} {f : Nat} (h : O ++ fg (il (f + 1) Z) = gI B) (hZ : 65535 < Z.length) : O ++ [0, (65535 : Int) % 256, (65535 : Int) / 256, 255 - (65535 : Int) % 256, 255 - (65535 : Int) / 256] ++ Z.take 65535 ++ fg (il f (Z.drop 65535)) = gI B := by
  rw [← h, sw hZ]
  have : (Z.take 65535).length = 65535 := by rw [List.length_take]; omega
  unfold fc
  rw [this]
  simp only [List.append_assoc]
  rfl
theorem u4 {B : List Int} (h : B.length ≤ 4194304) : (gI B).length = B.length + 5 * ((B.length - 1) / 65535 + 1) := x9 64 B (by omega)
theorem KX {B t : List Int} (h : B.length ≤ 4194304) (hB : ak B) (ht : ak t) : iS (gI B ++ t) B.length (B, ((gI B).length : Int), 0) ∧ ∀ mo : Int, 0 ≤ mo → mo < B.length → iS (gI B ++ t) mo ([], 0, 6) := by
  obtain ⟨X, L, e⟩ := yH 64 B
  have h1 := HH (L := il 64 B) (by rw [e]; simp) (fun X hX => ⟨pE 64 B (by omega) X hX, fun x hx => hB x (by
    have := ss 64 B
    rw [← this]; exact List.mem_flatten.2 ⟨X, hX, hx⟩)⟩) ht
  rw [ss] at h1
  exact h1
end Go.aJ
namespace Go.kB
open Go.ae
end Go.kB
namespace Go.aJ
open Go.af Go.ae Go.ad
def nB (bs : List Int) (a : Nat) : Nat → Int
  | 0 => 0
  | n + 1 => nB bs a n + bs.getD (a + n) 0 * 2 ^ n
def jW (bs : List Int) : List Int := (List.range ((bs.length + 7) / 8)).map fun j => nB bs (8 * j) 8
def Zp (l : List cX) : List Int := kQ 1 1 ++ kQ 1 2 ++ (qu fb kz l ++ wb fb 256)
def O9 (l : List cX) : List Int := jW (Zp l)
def dA (l : List cX) : List Int := kB.uQ (fA l) 15
def dB (l : List cX) : List Int := kB.uQ (fB l) 15
def Gg : List Int → List Int → List Int
  | [], f => f
  | n :: l, f => Gg l (xe f n)
def GP (l : List cX) : List Int := dA l ++ dB l
def VF : List Int := List.replicate 19 0
def WQ (l : List cX) : List Int := Gg (GP l) VF
def dF (l : List cX) : List Int := kB.uQ (WQ l) 7
def cD (f : List Int) (k : Nat) : List Int := (lx.take k).flatMap fun i => kQ (f.getD i.toNat 0) 3
def WT : List Int := kQ 1 1 ++ kQ 2 2 ++ kQ 29 5 ++ kQ 29 5 ++ kQ 15 4
def Y0 (l : List cX) : List Int := WT ++ cD (dF l) 19 ++ ae.bits (dF l) (GP l) ++ (qu (dA l) (dB l) l ++ wb (dA l) 256)
def O5 (l : List cX) : List Int := jW (Y0 l)
end Go.aJ
namespace Go.aJ
open Go.af Go.ae Go.ad
def gT {α : Type} (a b c : α) : Nat → α
  | 0 => a
  | 1 => b
  | _ => c
def bi (n : Nat → Nat) : Nat → Nat
  | 0 => 0
  | k + 1 => if n (k + 1) < n (bi n k) then k + 1 else bi n k
def sN (B : List Int) : Nat → Nat := gT (gI B).length (O9 (uJ B)).length (O5 (uJ B)).length
def nz (B : List Int) : List Int := gT (gI B) (O9 (uJ B)) (O5 (uJ B)) (bi (sN B) 2)
end Go.aJ
namespace Go.aJ
open Go.af Go.ae Go.ad
end Go.aJ
namespace Go.aJ
open Go.af Go.ae Go.ad
def Dm (n : Int) : Int := if n < 0 then 0 else n
def bV (n : Int) : Int := if 0 < Dm n % 65535 then Dm n + 5 * (Dm n / 65535 + 1) + 5 else Dm n + 5 * (Dm n / 65535) + 5
end Go.aJ
namespace Go.aJ
open Go.af Go.ae Go.ad
structure Rq (ls ds o : List Int) (mo : Int) (z : St) (a : Nat) (out : List Int) : Prop where
  CI : gm o mo ad.start z
  at_ : z.at_ = a
  out : z.out = out
  k1 : ¬ z.kind = -1
  k2 : ¬ z.kind = 0
  ax : z.ax = 0
  ended : z.ended = false
  last : z.last = true
  lits : z.lits = ls
  dD : z.dD = ds
section
variable {ls ds bs o u r out : List Int} {mo y : Int} {z : St} {t : cX}
end
end Go.aJ
namespace Go.aJ
open Go.af Go.ae Go.ad
end Go.aJ
namespace Go.aJ
open Go.af Go.ae Go.ad
section
variable {B : List Int} {b : Int}
def Cst (B : List Int) (b : Int) : Prop := ∀ i, i < B.length → B.getD i 0 = b
end
end Go.aJ
namespace Go.aJ
open Go.af Go.ae Go.ad
def nxR (x : Int) : Int := IntKind.u32.wrap (IntKind.u32.wrap (x * 1664525) + 1013904223)
def nzV (x : Int) : Int := IntKind.u8.wrap (x.fdiv (2 ^ (min (24 : Int).toNat IntKind.u32.bits)))
structure Gd (B : List Int) : Prop where
  zb : (nz B).length ≤ 30000000
  oH : ak (nz B)
  res : iS (nz B) (B.length : Int) (B, ((nz B).length : Int), 0)
  bV : ((nz B).length : Int) ≤ (B.length : Int) + 5 * (((B.length : Int) + 65534) / 65535) + 5
theorem ak.snoc {l : List Int} {y : Int} (h : ak l) (hy : 0 ≤ y ∧ y < 256) : ak (l ++ [y]) := fun x hx => by
  rcases List.mem_append.1 hx with hx | hx
  · exact h x hx
  · rw [List.mem_singleton.1 hx]; exact hy
end Go.aJ
namespace Go.aJ
open Go.af
theorem ak.app {a b : List Int} (h : ak a) (k : ak b) : ak (a ++ b) := fun x hx => by
  rcases List.mem_append.1 hx with hx | hx
  · exact h x hx
  · exact k x hx
end Go.aJ
namespace Go.aJ
open Go.af Go.ad
theorem gK : ak [] := fun x hx => by cases hx
end Go.aJ
namespace Go.aJ
end Go.aJ
namespace Go.aH
open Go.af Go.ad
theorem r3 {x : Int} (h : 0 ≤ x ∧ x < 256) : ∃ k : Fin 256, x = ((k.val : Nat) : Int) := ⟨⟨x.toNat, by omega⟩, by simp only; omega⟩
theorem C6 : ∀ k : Fin 256, IntKind.i64.wrap ((BitVec.ofInt IntKind.i64.bits ((k.val : Nat) : Int) &&& BitVec.ofInt IntKind.i64.bits 15).toNat : Int) = ((k.val : Nat) : Int) % 16 := by decide +kernel
theorem E7 : ∀ k : Fin 256, IntKind.i64.wrap ((BitVec.ofInt IntKind.i64.bits ((k.val : Nat) : Int) &&& BitVec.ofInt IntKind.i64.bits 32).toNat : Int) = 32 * (((k.val : Nat) : Int) / 32 % 2) := by decide +kernel
theorem UE {x : Int} (h : 0 ≤ x ∧ x < 256) : IntKind.i64.wrap ((BitVec.ofInt IntKind.i64.bits x &&& BitVec.ofInt IntKind.i64.bits 15).toNat : Int) = x % 16 := by obtain ⟨k, rfl⟩ := r3 h; exact C6 k
theorem CC {x : Int} (h : 0 ≤ x ∧ x < 256) : IntKind.i64.wrap ((BitVec.ofInt IntKind.i64.bits x &&& BitVec.ofInt IntKind.i64.bits 32).toNat : Int) = 32 * (x / 32 % 2) := by obtain ⟨k, rfl⟩ := r3 h; exact E7 k
theorem Zq {x : Int} (h : 0 ≤ x) : x.fdiv (2 ^ (min (4 : Int).toNat IntKind.i64.bits)) = x / 16 := by rw [Int.fdiv_eq_ediv_of_nonneg _ (by decide)]; rfl
theorem EJ {a b n : Nat} (hb : b < 2 ^ n) : (a * 2 ^ n) ||| b = a * 2 ^ n + b := by
  have := Nat.shiftLeft_add_eq_or_of_lt hb a
  rw [Nat.shiftLeft_eq] at this
  exact this.symm
theorem wrap32 {n : Int} (h1 : 0 ≤ n) (h2 : n < 4294967296) : IntKind.u32.wrap n = n := by
  have e : IntKind.u32.wrap n = n % 4294967296 := rfl
  rw [e]; omega
theorem wrap64 {n : Int} (h1 : 0 ≤ n) (h2 : n < 4294967296) : IntKind.i64.wrap n = n := Go.Sl.eX (by omega) (by omega)
theorem X9 {x y u : Int} {n : Nat} (hx : x = u * 2 ^ n) (hu : 0 ≤ u) (hy : 0 ≤ y ∧ y < 2 ^ n) (h : x + y < 4294967296) : IntKind.u32.wrap ((BitVec.ofInt IntKind.u32.bits x ||| BitVec.ofInt IntKind.u32.bits y).toNat : Int) = x + y := by
  obtain ⟨a, rfl⟩ : ∃ a : Nat, u = (a : Int) := ⟨u.toNat, by omega⟩
  obtain ⟨b, rfl⟩ : ∃ b : Nat, y = (b : Int) := ⟨y.toNat, by omega⟩
  have e : IntKind.u32.bits = 32 := rfl
  have hb : b < 2 ^ n := by have := hy.2; exact_mod_cast this
  have hx2 : x = ((a * 2 ^ n : Nat) : Int) := by rw [hx]; push_cast; rfl
  subst hx2
  rw [e, BitVec.toNat_or, cn, cn, Nat.mod_eq_of_lt (by omega), Nat.mod_eq_of_lt (by omega), EJ hb, wrap32 (by omega) (by omega)]
  omega
theorem ur {x y u : Int} {n : Nat} (hx : x = u * 2 ^ n) (hu : 0 ≤ u) (hy : 0 ≤ y ∧ y < 2 ^ n) (h : x + y < 4294967296) : IntKind.i64.wrap ((BitVec.ofInt IntKind.i64.bits x ||| BitVec.ofInt IntKind.i64.bits y).toNat : Int) = x + y := by
  obtain ⟨a, rfl⟩ : ∃ a : Nat, u = (a : Int) := ⟨u.toNat, by omega⟩
  obtain ⟨b, rfl⟩ : ∃ b : Nat, y = (b : Int) := ⟨y.toNat, by omega⟩
  have e : IntKind.i64.bits = 64 := rfl
  have hb : b < 2 ^ n := by have := hy.2; exact_mod_cast this
  have hx2 : x = ((a * 2 ^ n : Nat) : Int) := by rw [hx]; push_cast; rfl
  subst hx2
  rw [e, BitVec.toNat_or, cn, cn, Nat.mod_eq_of_lt (by omega), Nat.mod_eq_of_lt (by omega), EJ hb, wrap64 (by omega) (by omega)]
  omega
theorem Hb {x r : Int} {n : Nat} {d : Int} (hd : d = (n : Int)) (hn : n ≤ 32) (hr : r = x * 2 ^ n) (h0 : 0 ≤ r) (h1 : r < 4294967296) : IntKind.i64.wrap (x * 2 ^ (min d.toNat IntKind.i64.bits)) = r := by
  have e : min d.toNat IntKind.i64.bits = n := by
    have : IntKind.i64.bits = 64 := rfl
    omega
  rw [e, ← hr]; exact wrap64 h0 h1
theorem Xq {x r : Int} {n : Nat} {d : Int} (hd : d = (n : Int)) (hn : n ≤ 32) (hr : r = x * 2 ^ n) (h0 : 0 ≤ r) (h1 : r < 4294967296) : IntKind.u32.wrap (x * 2 ^ (min d.toNat IntKind.u32.bits)) = r := by
  have e : min d.toNat IntKind.u32.bits = n := by
    have : IntKind.u32.bits = 32 := rfl
    omega
  rw [e, ← hr]; exact wrap32 h0 h1
theorem CG {x : Int} {n : Nat} {d : Int} (hd : d = (n : Int)) (hn : n ≤ 32) : x.fdiv (2 ^ (min d.toNat IntKind.u32.bits)) = x / 2 ^ n := by
  have e : min d.toNat IntKind.u32.bits = n := by
    have : IntKind.u32.bits = 32 := rfl
    omega
  rw [e, Int.fdiv_eq_ediv_of_nonneg _ (Int.le_of_lt (Int.pow_pos (by decide)))]
def oP (s : Int × Int) (c : Int) : Int × Int := ((s.1 + c) % 65521, (s.2 + (s.1 + c) % 65521) % 65521)
def e9 (l : List Int) : Int × Int := l.foldl oP (1, 0)
theorem qQ : e9 [] = (1, 0) := rfl
theorem HD (l : List Int) (c : Int) : e9 (l ++ [c]) = oP (e9 l) c := by simp [e9]
theorem od {l : List Int} {i : Nat} (h : i < l.length) : e9 (l.take (i + 1)) = oP (e9 (l.take i)) (l.getD i 0) := by rw [ad.gR h, HD]
theorem RU (s : Int × Int) (c : Int) : (0 ≤ (oP s c).1 ∧ (oP s c).1 < 65521) ∧ 0 ≤ (oP s c).2 ∧ (oP s c).2 < 65521 := by unfold oP; simp only; omega
theorem KB (l : List Int) : ∀ s : Int × Int, ((0 ≤ s.1 ∧ s.1 < 65521) ∧ 0 ≤ s.2 ∧ s.2 < 65521) → (0 ≤ (l.foldl oP s).1 ∧ (l.foldl oP s).1 < 65521) ∧ 0 ≤ (l.foldl oP s).2 ∧ (l.foldl oP s).2 < 65521 := by
  induction l with
  | nil => exact fun s h => h
  | cons a l ih => exact fun s h => ih _ (RU s a)
theorem oY (l : List Int) : (0 ≤ (e9 l).1 ∧ (e9 l).1 < 65521) ∧ 0 ≤ (e9 l).2 ∧ (e9 l).2 < 65521 := KB l _ (by decide)
def fk (l : List Int) : Int := (e9 l).2 * 65536 + (e9 l).1
theorem xf (l : List Int) : 0 ≤ fk l ∧ fk l < 4294967296 := by have := oY l; unfold fk; omega
def jP (l : List Int) : List Int := [fk l / 16777216, fk l / 65536 % 256, fk l / 256 % 256, fk l % 256]
theorem uX (l : List Int) : (jP l).length = 4 := rfl
theorem q9 (l : List Int) : ak (jP l) := fun x hx => by
  have := xf l
  simp only [jP, List.mem_cons, List.not_mem_nil, or_false] at hx
  rcases hx with rfl | rfl | rfl | rfl <;> omega
def cV (l : List Int) : Int := l.getD 0 0 * 16777216 + l.getD 1 0 * 65536 + l.getD 2 0 * 256 + l.getD 3 0
def Hd (a b : Int) : Prop := a % 16 = 8 ∧ a / 16 ≤ 7 ∧ (a * 256 + b) % 31 = 0 ∧ 32 * (b / 32 % 2) = 0
instance (a b : Int) : Decidable (Hd a b) := by unfold Hd; infer_instance
theorem S5 (a b : Int) : ¬ a % 16 = 8 ∨ (a % 16 = 8 ∧ ¬ a / 16 ≤ 7) ∨ (a % 16 = 8 ∧ a / 16 ≤ 7 ∧ ¬ (a * 256 + b) % 31 = 0) ∨ (a % 16 = 8 ∧ a / 16 ≤ 7 ∧ (a * 256 + b) % 31 = 0 ∧ ¬ 32 * (b / 32 % 2) = 0) ∨ (a % 16 = 8 ∧ a / 16 ≤ 7 ∧ (a * 256 + b) % 31 = 0 ∧ 32 * (b / 32 % 2) = 0) := by omega
def fin (D : List Int) (r : List Int × Int × Int) : List Int × Int :=
  if ¬ r.2.2 = 0 then ([], r.2.2) else if D.length - r.2.1.toNat < 4 then ([], 2) else if 4 < D.length - r.2.1.toNat then ([], 4) else if D.drop r.2.1.toNat = jP r.1 then (r.1, 0) else ([], 5)
def lZ (B : List Int) (mo : Int) (q : List Int × Int) : Prop :=
  (B.length < 6 ∧ q = ([], 2)) ∨ (6 ≤ B.length ∧ ¬ Hd (B.getD 0 0) (B.getD 1 0) ∧ q = ([], 4)) ∨ (6 ≤ B.length ∧ Hd (B.getD 0 0) (B.getD 1 0) ∧ ∃ r, iS (B.drop 2) mo r ∧ q = fin (B.drop 2) r)
theorem dT {B : List Int} (h : ak B) (n : Nat) : ak (B.drop n) := fun x hx => h x (List.mem_of_mem_drop hx)
theorem MP {B : List Int} {mo : Int} (hB : ak B) {q : List Int × Int × Int} (h : iS B mo q) : ak q.1 ∧ 0 ≤ q.2.1 ∧ q.2.1 ≤ B.length ∧ (q.1 = [] ∨ (q.1.length : Int) ≤ mo) := by
  rcases h with ⟨_, rfl⟩ | ⟨h0, o, ho, rfl⟩
  · exact ⟨fun x hx => by (cases hx), by decide, by simp, .inl rfl⟩
  · cases o with
    | error e => exact ⟨fun x hx => by (cases hx), by simp [Ou], by simp [Ou], .inl rfl⟩
    | ok p =>
      obtain ⟨x, n⟩ := p
      obtain ⟨h1, h2, h3⟩ := DF hB ho (og (by omega)) x n rfl
      exact ⟨h3, by simp [Ou], by simp only [Ou]; omega, .inr h1⟩
end Go.aH
namespace Go.aH
open Go.af Go.ad Go.aJ
theorem lZ.ways {B : List Int} {mo : Int} {q : List Int × Int} (hB : ak B) (hm : mo < 500000000) (h : lZ B mo q) :
    (B.length < 6 ∧ q = ([], 2)) ∨ (6 ≤ B.length ∧ ¬ Hd (B.getD 0 0) (B.getD 1 0) ∧ q = ([], 4)) ∨
    (∃ e, 6 ≤ B.length ∧ Hd (B.getD 0 0) (B.getD 1 0) ∧ iS (B.drop 2) mo ([], ((0 : Nat) : Int), e) ∧ ¬ e = 0 ∧ q = ([], e)) ∨
    (∃ (x : List Int) (n : Nat), 6 ≤ B.length ∧ Hd (B.getD 0 0) (B.getD 1 0) ∧ iS (B.drop 2) mo (x, (n : Int), 0) ∧ ak x ∧ x.length < 500000000 ∧ n ≤ B.length - 2 ∧ B.length - (2 + n) < 4 ∧ q = ([], 2)) ∨
    (∃ (x : List Int) (n : Nat), 6 ≤ B.length ∧ Hd (B.getD 0 0) (B.getD 1 0) ∧ iS (B.drop 2) mo (x, (n : Int), 0) ∧ ak x ∧ x.length < 500000000 ∧ n ≤ B.length - 2 ∧ 4 < B.length - (2 + n) ∧ q = ([], 4)) ∨
    (∃ (x : List Int) (n : Nat), 6 ≤ B.length ∧ Hd (B.getD 0 0) (B.getD 1 0) ∧ iS (B.drop 2) mo (x, (n : Int), 0) ∧ ak x ∧ x.length < 500000000 ∧ n ≤ B.length - 2 ∧ B.length - (2 + n) = 4 ∧ ¬ B.drop (2 + n) = jP x ∧ q = ([], 5)) ∨
    (∃ (x : List Int) (n : Nat), 6 ≤ B.length ∧ Hd (B.getD 0 0) (B.getD 1 0) ∧ iS (B.drop 2) mo (x, (n : Int), 0) ∧ ak x ∧ x.length < 500000000 ∧ n ≤ B.length - 2 ∧ B.length - (2 + n) = 4 ∧ B.drop (2 + n) = jP x ∧ q = (x, 0)) := by
  rcases h with h | h | ⟨h6, hh, ⟨x, n, e⟩, hr, hq⟩
  · exact .inl h
  · exact .inr (.inl h)
  · obtain ⟨i1, i2, i3, i4⟩ := MP (dT hB 2) hr
    simp only [List.length_drop] at i1 i2 i3 i4
    have hxl : x.length < 500000000 := by
      rcases i4 with h | h
      · rw [h]; decide
      · omega
    have hez : ¬ e = 0 → x = [] ∧ n = 0 := fun he => by
      rcases hr with ⟨_, h⟩ | ⟨_, o, _, h⟩
      · cases h; exact ⟨rfl, rfl⟩
      · cases o
        · cases h; exact ⟨rfl, rfl⟩
        · cases h; exact absurd rfl he
    obtain ⟨k, rfl⟩ : ∃ k : Nat, n = (k : Int) := ⟨n.toNat, by omega⟩
    unfold fin at hq
    simp only [List.length_drop, List.drop_drop, Int.toNat_natCast] at hq
    split at hq
    · rename_i h1
      obtain ⟨rfl, h2⟩ := hez h1
      obtain rfl : k = 0 := by omega
      exact .inr (.inr (.inl ⟨_, h6, hh, hr, h1, hq⟩))
    · rename_i h1
      obtain rfl : e = 0 := by omega
      split at hq
      · rename_i h2; exact .inr (.inr (.inr (.inl ⟨_, _, h6, hh, hr, i1, hxl, by omega, by omega, hq⟩)))
      · split at hq
        · rename_i h2 h3; exact .inr (.inr (.inr (.inr (.inl ⟨_, _, h6, hh, hr, i1, hxl, by omega, by omega, hq⟩))))
        · split at hq
          · rename_i h2 h3 h4; exact .inr (.inr (.inr (.inr (.inr (.inr ⟨_, _, h6, hh, hr, i1, hxl, by omega, by omega, h4, hq⟩)))))
          · rename_i h2 h3 h4; exact .inr (.inr (.inr (.inr (.inr (.inl ⟨_, _, h6, hh, hr, i1, hxl, by omega, by omega, h4, hq⟩)))))
theorem lZ.XJ {B : List Int} {mo : Int} {q : List Int × Int} (hB : ak B) (hm : mo < 500000000) (h : lZ B mo q) :
    (B.length < 6 ∧ q = ([], 2)) ∨ (6 ≤ B.length ∧ ¬ Hd (B.getD 0 0) (B.getD 1 0) ∧ q = ([], 4)) ∨
    (∃ (x : List Int) (n : Nat) (e : Int), 6 ≤ B.length ∧ Hd (B.getD 0 0) (B.getD 1 0) ∧ iS (B.drop 2) mo (x, (n : Int), e) ∧ ak x ∧ x.length < 500000000 ∧ n ≤ B.length - 2 ∧
      ((¬ e = 0 ∧ q = ([], e)) ∨ (e = 0 ∧ B.length - (2 + n) < 4 ∧ q = ([], 2)) ∨ (e = 0 ∧ 4 < B.length - (2 + n) ∧ q = ([], 4)) ∨ (e = 0 ∧ B.length - (2 + n) = 4 ∧ ¬ B.drop (2 + n) = jP x ∧ q = ([], 5)) ∨ (e = 0 ∧ B.length - (2 + n) = 4 ∧ B.drop (2 + n) = jP x ∧ q = (x, 0)))) := by
  rcases h.ways hB hm with h | h | ⟨e, a, b, c, d, r⟩ | ⟨x, n, a, b, c, d, f, g, r⟩ | ⟨x, n, a, b, c, d, f, g, r⟩ | ⟨x, n, a, b, c, d, f, g, r⟩ | ⟨x, n, a, b, c, d, f, g, r⟩
  · exact .inl h
  · exact .inr (.inl h)
  · exact .inr (.inr ⟨[], 0, e, a, b, c, fun x hx => (by cases hx), by decide, by omega, .inl ⟨d, r⟩⟩)
  · exact .inr (.inr ⟨x, n, 0, a, b, c, d, f, g, .inr (.inl ⟨rfl, r⟩)⟩)
  · exact .inr (.inr ⟨x, n, 0, a, b, c, d, f, g, .inr (.inr (.inl ⟨rfl, r⟩))⟩)
  · exact .inr (.inr ⟨x, n, 0, a, b, c, d, f, g, .inr (.inr (.inr (.inl ⟨rfl, r⟩)))⟩)
  · exact .inr (.inr ⟨x, n, 0, a, b, c, d, f, g, .inr (.inr (.inr (.inr ⟨rfl, r⟩)))⟩)
theorem bo {l : List Int} (h : ak l) : ∀ x ∈ l, 0 ≤ x ∧ x < 256 := h
def zS (B : List Int) : List Int := [120, 1] ++ nz B ++ jP B
theorem jZ {a : Int} {l : List Int} (h : 0 ≤ a ∧ a < 256) (k : ak l) : ak (a :: l) := fun x hx => by
  rcases List.mem_cons.1 hx with rfl | hx
  · exact h
  · exact k x hx
theorem Ug : Hd 120 1 := by unfold Hd; decide
end Go.aH
namespace Go.aa
open Go.af
def dp (a b : Int) : Int := ((a.toNat ^^^ b.toNat : Nat) : Int)
theorem qb {a b : Int} {n : Nat} (ha : 0 ≤ a ∧ a < 2 ^ n) (hb : 0 ≤ b ∧ b < 2 ^ n) : 0 ≤ dp a b ∧ dp a b < 2 ^ n := by
  have h1 : a.toNat < 2 ^ n := by have : ((a.toNat : Nat) : Int) < ((2 ^ n : Nat) : Int) := by push_cast; omega
                                  omega
  have h2 : b.toNat < 2 ^ n := by have : ((b.toNat : Nat) : Int) < ((2 ^ n : Nat) : Int) := by push_cast; omega
                                  omega
  have h := Nat.xor_lt_two_pow h1 h2
  refine ⟨Int.natCast_nonneg _, ?_⟩
  have : ((a.toNat ^^^ b.toNat : Nat) : Int) < ((2 ^ n : Nat) : Int) := by omega
  simpa [dp] using this
theorem wc {a b : Int} (ha : 0 ≤ a ∧ a < 4294967296) (hb : 0 ≤ b ∧ b < 4294967296) : IntKind.u32.wrap ((BitVec.ofInt IntKind.u32.bits a ^^^ BitVec.ofInt IntKind.u32.bits b).toNat : Int) = dp a b := by
  obtain ⟨x, rfl⟩ : ∃ x : Nat, a = (x : Int) := ⟨a.toNat, by omega⟩
  obtain ⟨y, rfl⟩ : ∃ y : Nat, b = (y : Int) := ⟨b.toNat, by omega⟩
  have e : IntKind.u32.bits = 32 := rfl
  have h := qb (n := 32) ha hb
  rw [e, BitVec.toNat_xor, cn, cn, Nat.mod_eq_of_lt (by omega), Nat.mod_eq_of_lt (by omega)]
  simp only [dp, Int.toNat_natCast] at h ⊢
  exact aH.wrap32 h.1 (by have := h.2; omega)
theorem Xt {a b : Int} (ha : 0 ≤ a ∧ a < 256) (hb : 0 ≤ b ∧ b < 256) : IntKind.u8.wrap ((BitVec.ofInt IntKind.u8.bits a ^^^ BitVec.ofInt IntKind.u8.bits b).toNat : Int) = dp a b := by
  obtain ⟨x, rfl⟩ : ∃ x : Nat, a = (x : Int) := ⟨a.toNat, by omega⟩
  obtain ⟨y, rfl⟩ : ∃ y : Nat, b = (y : Int) := ⟨b.toNat, by omega⟩
  have e : IntKind.u8.bits = 8 := rfl
  have h := qb (n := 8) ha hb
  rw [e, BitVec.toNat_xor, cn, cn, Nat.mod_eq_of_lt (by omega), Nat.mod_eq_of_lt (by omega)]
  simp only [dp, Int.toNat_natCast] at h ⊢
  exact Sl.qP h.1 (by have := h.2; omega)
theorem Cr {a : Int} (ha : 0 ≤ a ∧ a < 4294967296) : IntKind.u32.wrap ((BitVec.ofInt IntKind.u32.bits 4294967295 ^^^ BitVec.ofInt IntKind.u32.bits a).toNat : Int) = 4294967295 - a := by
  obtain ⟨x, rfl⟩ : ∃ x : Nat, a = (x : Int) := ⟨a.toNat, by omega⟩
  have e : IntKind.u32.bits = 32 := rfl
  have e1 : BitVec.ofInt 32 4294967295 = BitVec.allOnes 32 := by decide
  rw [e, e1, BitVec.xor_comm, BitVec.xor_allOnes, BitVec.toNat_not, cn, Nat.mod_eq_of_lt (by omega), aH.wrap32 (by omega) (by omega)]
  omega
def pn (x : Nat) : Nat := if x % 2 = 1 then (x / 2) ^^^ 3988292384 else x / 2
def jR : Nat → Nat → Nat
  | 0, x => x
  | k + 1, x => pn (jR k x)
theorem Ho (a b : Nat) : (a ^^^ b) % 2 = (a % 2 + b % 2) % 2 := by
  have h := Nat.testBit_xor a b 0
  simp only [Nat.testBit_zero] at h
  have ha : a % 2 = 0 ∨ a % 2 = 1 := by omega
  have hb : b % 2 = 0 ∨ b % 2 = 1 := by omega
  have hc : (a ^^^ b) % 2 = 0 ∨ (a ^^^ b) % 2 = 1 := by omega
  rcases ha with ha | ha <;> rcases hb with hb | hb <;> rcases hc with hc | hc <;> rw [ha, hb, hc] at h <;> first | omega | (exfalso; revert h; decide)
theorem HM (a b : Nat) : (a ^^^ b) / 2 = (a / 2) ^^^ (b / 2) := by
  refine Nat.eq_of_testBit_eq fun i => ?_
  simp only [Nat.testBit_div_two, Nat.testBit_xor]
theorem P8 (a b : Nat) : pn (a ^^^ b) = pn a ^^^ pn b := by
  have h2 := Ho a b
  have ha : a % 2 = 0 ∨ a % 2 = 1 := by omega
  have hb : b % 2 = 0 ∨ b % 2 = 1 := by omega
  unfold pn
  rw [HM]
  rcases ha with ha | ha <;> rcases hb with hb | hb <;> rw [h2, ha, hb]
  · simp
  · simp [Nat.xor_assoc]
  · simp only [Nat.reduceAdd, Nat.reduceMod, if_pos, if_neg, Nat.zero_ne_one, not_false_eq_true]
    rw [Nat.xor_assoc, Nat.xor_comm (b / 2), ← Nat.xor_assoc]
  · simp only [Nat.reduceAdd, Nat.reduceMod, if_pos, Nat.zero_ne_one, if_false]
    rw [Nat.xor_assoc, Nat.xor_comm 3988292384, Nat.xor_assoc, Nat.xor_self, Nat.xor_zero]
theorem OF (k a b : Nat) : jR k (a ^^^ b) = jR k a ^^^ jR k b := by
  induction k with
  | zero => rfl
  | succ k ih => simp only [jR, ih, P8]
theorem Ma (a : Nat) : pn (2 * a) = a := by unfold pn; rw [if_neg (by omega)]; omega
theorem Tg (h : Nat) : jR 8 (256 * h) = h := by
  have e : ∀ k m : Nat, jR k (2 ^ k * m) = m := by
    intro k
    induction k with
    | zero => intro m; simp [jR]
    | succ k ih => intro m; rw [jR, Nat.pow_succ, Nat.mul_assoc, ih, Ma]
  exact e 8 h
theorem G8 (s : Nat) : s = (256 * (s / 256)) ^^^ (s % 256) := by
  have h := Nat.two_pow_add_eq_or_of_lt (i := 8) (b := s % 256) (by omega) (s / 256)
  have h2 : (2 ^ 8 * (s / 256)) ^^^ (s % 256) = (2 ^ 8 * (s / 256)) ||| (s % 256) := by
    refine Nat.eq_of_testBit_eq fun i => ?_
    rw [Nat.testBit_xor, Nat.testBit_or]
    rcases Nat.lt_or_ge i 8 with hi | hi
    · rw [Nat.testBit_two_pow_mul, decide_eq_false (by omega)]; simp
    · have : (s % 256).testBit i = false := Nat.testBit_lt_two_pow (Nat.lt_of_lt_of_le (by omega : s % 256 < 2 ^ 8) (Nat.pow_le_pow_right (by decide) hi))
      rw [this]; simp
  have e : 2 ^ 8 * (s / 256) = 256 * (s / 256) := by omega
  rw [e] at h h2
  omega
theorem Fe (s c : Nat) (hc : c < 256) : jR 8 (s ^^^ c) = jR 8 ((s % 256) ^^^ c) ^^^ (s / 256) := by
  conv => lhs; rw [G8 s]
  rw [Nat.xor_assoc, OF, Tg, Nat.xor_comm]
end Go.aa
namespace Go.aa
open Go.af
theorem UD {x : Nat} (h : x < 4294967296) : pn x < 4294967296 := by
  unfold pn
  split
  · exact Nat.xor_lt_two_pow (n := 32) (by omega) (by decide)
  · omega
theorem CN {x : Nat} (h : x < 4294967296) : ∀ k, jR k x < 4294967296
  | 0 => h
  | k + 1 => UD (CN h k)
def fK (x : Int) : Int := ((jR 8 x.toNat : Nat) : Int)
theorem AG {x : Int} (h : 0 ≤ x ∧ x < 4294967296) : 0 ≤ fK x ∧ fK x < 4294967296 := by
  have := CN (x := x.toNat) (by omega) 8
  unfold fK; omega
theorem DH {s c : Int} (hs : 0 ≤ s) (hc : 0 ≤ c ∧ c < 256) : fK (dp s c) = dp (fK (dp (s % 256) c)) (s / 256) := by
  obtain ⟨a, rfl⟩ : ∃ a : Nat, s = (a : Int) := ⟨s.toNat, by omega⟩
  obtain ⟨b, rfl⟩ : ∃ b : Nat, c = (b : Int) := ⟨c.toNat, by omega⟩
  have e1 : ((a : Int) % 256).toNat = a % 256 := by omega
  have e2 : ((a : Int) / 256).toNat = a / 256 := by omega
  simp only [fK, dp, Int.toNat_natCast, e1, e2]
  rw [Fe a b (by omega)]
def fq (s : Int) (l : List Int) : Int := l.foldl (fun s c => fK (dp s c)) s
theorem nK : ∀ {l : List Int} {s : Int}, ak l → 0 ≤ s ∧ s < 4294967296 → 0 ≤ fq s l ∧ fq s l < 4294967296
  | [], s, _, h => h
  | c :: l, s, hl, h => by
    have hc := hl c (by simp)
    exact nK (l := l) (fun x hx => hl x (by simp [hx])) (AG (by have := qb (n := 32) (a := s) (b := c) (by omega) (by omega); omega))
theorem yV {l : List Int} {s : Int} {i : Nat} (h : i < l.length) : fq s (l.take (i + 1)) = fK (dp (fq s (l.take i)) (l.getD i 0)) := by
  rw [ad.gR h]; simp [fq]
def pG (s : Int) (l : List Int) : Int := 4294967295 - fq (4294967295 - s) l
theorem tM {s : Int} {l : List Int} (hs : 0 ≤ s ∧ s < 4294967296) (hl : ak l) : 0 ≤ pG s l ∧ pG s l < 4294967296 := by
  have := nK (l := l) (s := 4294967295 - s) hl (by omega)
  unfold pG; omega
structure Ch where
  k : List Int
  d : List Int
def gj (k d : List Int) : Int := pG (pG 0 k) d
def jL (c : Int) : Prop := (97 ≤ c ∧ c ≤ 122) ∨ (65 ≤ c ∧ c ≤ 90)
instance (c : Int) : Decidable (jL c) := by unfold jL; infer_instance
def cY (k : List Int) : Prop := k.length = 4 ∧ ∀ c ∈ k, jL c
instance (k : List Int) : Decidable (cY k) := by unfold cY; infer_instance
def bQ : List Int := [73, 72, 68, 82]
def aN : List Int := [80, 76, 84, 69]
def aS : List Int := [116, 82, 78, 83]
def ba : List Int := [73, 68, 65, 84]
def aY : List Int := [73, 69, 78, 68]
def ee : List Int := [137, 80, 78, 71, 13, 10, 26, 10]
def first (L : List Int) : Except Int Ch :=
  if L.length < 12 then .error 2
  else if 2147483647 < aH.cV L ∨ ¬ cY ((L.drop 4).take 4) then .error 4
  else if (L.length : Int) - 12 < aH.cV L then .error 2
  else if aH.cV (L.drop (8 + (aH.cV L).toNat)) = gj ((L.drop 4).take 4) ((L.drop 8).take (aH.cV L).toNat) then .ok ⟨(L.drop 4).take 4, (L.drop 8).take (aH.cV L).toNat⟩
  else .error 5
theorem uy {L : List Int} (h : ak L) : 0 ≤ aH.cV L ∧ aH.cV L < 4294967296 := by
  have h0 := h.get 0; have h1 := h.get 1; have h2 := h.get 2; have h3 := h.get 3
  unfold aH.cV; omega
theorem PR {L : List Int} (hL : ak L) : (L.length < 12 ∧ first L = .error 2) ∨ ∃ n : Nat, 12 ≤ L.length ∧ aH.cV L = (n : Int) ∧ n < 4294967296 ∧
    ((2147483647 < n ∧ first L = .error 4) ∨ (n ≤ 2147483647 ∧ ¬ cY ((L.drop 4).take 4) ∧ first L = .error 4) ∨ (n ≤ 2147483647 ∧ cY ((L.drop 4).take 4) ∧ L.length < 12 + n ∧ first L = .error 2) ∨
     (12 + n ≤ L.length ∧ cY ((L.drop 4).take 4) ∧ aH.cV (L.drop (8 + n)) = gj ((L.drop 4).take 4) ((L.drop 8).take n) ∧ first L = .ok ⟨(L.drop 4).take 4, (L.drop 8).take n⟩ ∧ n ≤ 2147483647) ∨
     (12 + n ≤ L.length ∧ cY ((L.drop 4).take 4) ∧ ¬ aH.cV (L.drop (8 + n)) = gj ((L.drop 4).take 4) ((L.drop 8).take n) ∧ first L = .error 5 ∧ n ≤ 2147483647)) := by
  rcases Nat.lt_or_ge L.length 12 with h | h
  · exact .inl ⟨h, by unfold first; rw [if_pos h]⟩
  · right
    have hn := uy hL
    obtain ⟨n, e⟩ : ∃ n : Nat, aH.cV L = (n : Int) := ⟨(aH.cV L).toNat, by omega⟩
    refine ⟨n, h, e, by omega, ?_⟩
    unfold first
    rw [if_neg (by omega), e, Int.toNat_natCast]
    by_cases h1 : 2147483647 < n
    · exact .inl ⟨h1, by rw [if_pos (.inl (by omega))]⟩
    · by_cases h2 : cY ((L.drop 4).take 4)
      · rw [if_neg (by rintro (h | h); omega; exact h h2)]
        by_cases h3 : L.length < 12 + n
        · exact .inr (.inr (.inl ⟨by omega, h2, h3, by rw [if_pos (by omega)]⟩))
        · rw [if_neg (by omega)]
          by_cases h4 : aH.cV (L.drop (8 + n)) = gj ((L.drop 4).take 4) ((L.drop 8).take n)
          · exact .inr (.inr (.inr (.inl ⟨by omega, h2, h4, by rw [if_pos h4], by omega⟩)))
          · exact .inr (.inr (.inr (.inr ⟨by omega, h2, h4, by rw [if_neg h4], by omega⟩)))
      · exact .inr (.inl ⟨by omega, h2, by rw [if_pos (.inr h2)]⟩)
def fx : Nat → List Int → List Ch → Except Int (List Ch)
  | 0, _, _ => .error 2
  | f + 1, L, l => match first L with
    | .error e => .error e
    | .ok c => if c.k = aY then (if L.length - (12 + c.d.length) = 0 then .ok (l ++ [c]) else .error 4) else fx f (L.drop (12 + c.d.length)) (l ++ [c])
def cut (B : List Int) : Except Int (List Ch) :=
  if 262144 < B.length then .error 3 else if B.length < 8 then .error 2 else if B.take 8 = ee then fx (B.length + 1) (B.drop 8) [] else .error 4
structure Wk where
  plte : Bool
  trns : Bool
  bW : Bool
  ka : Bool
def fI (k : List Int) : Prop := cY k ∧ k.getD 0 0 ≤ 90
instance (k : List Int) : Decidable (fI k) := by unfold fI; infer_instance
def bS (w : Wk) (c : Ch) : Wk × Bool :=
  if c.k = ba then (⟨w.plte, w.trns, true, w.ka⟩, !w.ka)
  else if c.k = aN then (if w.trns then (⟨w.plte, w.trns, w.bW, w.bW⟩, false) else (⟨true, w.trns, w.bW, w.bW⟩, !w.plte && !w.bW))
  else if c.k = aS then (⟨w.plte, true, w.bW, w.bW⟩, !w.trns && !w.bW)
  else (⟨w.plte, w.trns, w.bW, w.bW⟩, decide (cY c.k) && !decide (fI c.k))
def walk : List Ch → Wk → Option Wk
  | [], w => some w
  | c :: l, w => if (bS w c).2 then walk l (bS w c).1 else none
def cD (l : List Ch) : Bool :=
  decide (3 ≤ l.length) && (l.map Ch.k).getD 0 [] == bQ && (l.map (·.d.length)).getD 0 0 == 13 && (l.map Ch.k).getD (l.length - 1) [] == aY && (l.map (·.d.length)).getD (l.length - 1) 0 == 0 &&
    (match walk ((l.drop 1).take (l.length - 2)) ⟨false, false, false, false⟩ with | some w => w.bW | none => false)
end Go.aa
namespace Go.aa
open Go.af
structure Od where
 gW : Nat
 ends : Nat
 gV : Nat
 fG : Nat
 gh : Nat
def du (n i : Nat) (prev : List Int) (c : Ch) (s : Od) : Option Od :=
 if c.k = bQ then (if 0 < i ∨ c.d.length ≠ 13 then none else some { s with gW := s.gW + 1 })
 else if c.k = aY then (if i + 1 < n ∨ 0 < c.d.length then none else some { s with ends := s.ends + 1 })
 else if c.k = ba then (if 0 < s.gh ∧ prev ≠ ba then none else some { s with gh := s.gh + 1 })
 else if c.k = aN then (if 0 < s.gh ∨ 0 < s.fG then none else some { s with gV := s.gV + 1 })
 else if c.k = aS then (if 0 < s.gh then none else some { s with fG := s.fG + 1 })
 else if ¬ cY c.k ∨ fI c.k then none else some s
def sk (s : Od) : Bool := decide (s.gW = 1) && decide (s.ends = 1) && decide (1 ≤ s.gh) && decide (s.gV ≤ 1) && decide (s.fG ≤ 1)
def kD (n : Nat) : Nat → List Int → List Ch → Od → Bool
 | _, _, [], s => sk s
 | i, prev, c :: l, s => match du n i prev c s with | none => false | some s2 => kD n (i + 1) c.k l s2
theorem GU {n i : Nat} {prev : List Int} {c : Ch} {s s2 : Od} (h : du n i prev c s = some s2) : s.gV ≤ s2.gV ∧ s.fG ≤ s2.fG ∧ s.gW ≤ s2.gW ∧ (0 < i → s2.gW = s.gW) := by
 unfold du at h
 split at h
 ·split at h
  ·cases h
  ·rename_i h1 h2; cases h; exact ⟨Nat.le_refl _, Nat.le_refl _, by simp, fun h => absurd (.inl h) h2⟩
 ·split at h
  ·split at h <;> cases h; simp
  ·split at h
   ·split at h <;> cases h; simp
   ·split at h
    ·split at h <;> cases h; simp
    ·split at h
     ·split at h <;> cases h; simp
     ·split at h <;> cases h; simp
theorem sD {n : Nat} : ∀ {l : List Ch} {i : Nat} {prev : List Int} {s : Od}, (1 < s.gV ∨ 1 < s.fG ∨ (0 < i ∧ s.gW = 0)) → kD n i prev l s = false
 | [], i, prev, s, h => by
  unfold kD sk
  rcases h with h | h | h
  ·rw [decide_eq_false (p := s.gV ≤ 1) (by omega)]; simp
  ·rw [decide_eq_false (p := s.fG ≤ 1) (by omega)]; simp
  ·rw [decide_eq_false (p := s.gW = 1) (by omega)]; simp
 | c :: l, i, prev, s, h => by
  unfold kD
  split
  ·rfl
  ·rename_i s2 h2
   have g := GU h2
   refine sD ?_
   rcases h with h | h | h
   ·exact .inl (by omega)
   ·exact .inr (.inl (by omega))
   ·exact .inr (.inr ⟨by omega, by rw [g.2.2.2 h.1]; exact h.2⟩)
def p9 (l : List Ch) (w : Wk) : Bool :=
 (match walk (l.take (l.length - 1)) w with | some w => w.bW | none => false) && (l.map Ch.k).getD (l.length - 1) [] == aY && (l.map (·.d.length)).getD (l.length - 1) 0 == 0
structure Wi (prev : List Int) (s : Od) (w : Wk) : Prop where
 gW : s.gW = 1
 ends : s.ends = 0
 plte : w.plte = decide (0 < s.gV)
 trns : w.trns = decide (0 < s.fG)
 bW : w.bW = decide (0 < s.gh)
 ka : w.ka = decide (0 < s.gh ∧ prev ≠ ba)
 one : s.gV ≤ 1 ∧ s.fG ≤ 1
theorem FA {k : List Int} (h : k = bQ ∨ k = aY) : cY k ∧ fI k := by
 rcases h with rfl | rfl <;> decide
theorem CO {c c2 : Ch} {l : List Ch} {w : Wk} : p9 (c :: c2 :: l) w = (if (bS w c).2 then p9 (c2 :: l) (bS w c).1 else false) := by
 unfold p9
 have e : (c :: c2 :: l).take ((c :: c2 :: l).length - 1) = c :: (c2 :: l).take ((c2 :: l).length - 1) := by simp
 have e4 : ((c :: c2 :: l).map Ch.k).getD ((c :: c2 :: l).length - 1) [] = ((c2 :: l).map Ch.k).getD ((c2 :: l).length - 1) [] := rfl
 have e5 : ((c :: c2 :: l).map (·.d.length)).getD ((c :: c2 :: l).length - 1) 0 = ((c2 :: l).map (·.d.length)).getD ((c2 :: l).length - 1) 0 := rfl
 rw [e, e4, e5, walk]
 cases h : (bS w c).2
 ·simp only [Bool.false_eq_true, if_false, Bool.false_and]
 ·simp only [if_true]
theorem KV {n i : Nat} {prev : List Int} {c : Ch} {s : Od} {w : Wk} (hi : 0 < i) (hn : i + 1 = n) (h : Wi prev s w) : kD n i prev [c] s = p9 [c] w := by
 have hp := h.one
 have e : p9 [c] w = (w.bW && (c.k == aY) && (c.d.length == 0)) := by simp [p9, walk]
 rw [e, h.bW]
 unfold kD du
 by_cases h1 : c.k = bQ
 ·rw [if_pos h1, if_pos (.inl hi)]
  have : (c.k == aY) = false := by rw [h1]; decide
  simp [this]
 ·rw [if_neg h1]
  by_cases h2 : c.k = aY
  ·rw [if_pos h2]
   by_cases h3 : 0 < c.d.length
   ·rw [if_pos (.inr h3)]
    have : (c.d.length == 0) = false := by simp; intro h; rw [h] at h3; simp at h3
    rw [this]; simp
   ·rw [if_neg (by rintro (h | h); omega; exact h3 h)]
    simp only [kD, sk, h.gW, h.ends]
    have e1 : (c.k == aY) = true := by rw [h2]; decide
    have e2 : (c.d.length == 0) = true := by simp; exact List.length_eq_zero_iff.1 (by omega)
    rw [e1, e2, decide_eq_true hp.1, decide_eq_true hp.2]
    simp
    omega
  ·have e1 : (c.k == aY) = false := by simpa using h2
   rw [if_neg h2, e1]
   simp only [Bool.and_false, Bool.false_and]
   split
   ·rfl
   ·rename_i s2 hs
    have he : s2.ends = 0 := by
     have hend := h.ends
     split at hs
     ·split at hs <;> cases hs; exact hend
     ·split at hs
      ·split at hs <;> cases hs; exact hend
      ·split at hs
       ·split at hs <;> cases hs; exact hend
       ·split at hs <;> cases hs; exact hend
    simp [kD, sk, he]
theorem pZ {n : Nat} : ∀ {l : List Ch} {i : Nat} {prev : List Int} {s : Od} {w : Wk}, l ≠ [] → 0 < i → i + l.length = n → Wi prev s w → kD n i prev l s = p9 l w
 | [], i, prev, s, w, h, _, _, _ => absurd rfl h
 | [c], i, prev, s, w, _, hi, hn, h => KV hi (by simpa using hn) h
 | c :: c2 :: l, i, prev, s, w, _, hi, hn, h => by
  have hn2 : i + 1 + (c2 :: l).length = n := by simp only [List.length_cons] at hn ⊢; omega
  have hlt : i + 1 < n := by simp only [List.length_cons] at hn; omega
  have hp := h.one
  rw [CO]
  rw [kD]
  by_cases h1 : c.k = bQ
  ·have hc := FA (.inl h1)
   rw [show du n i prev c s = none by unfold du; rw [if_pos h1, if_pos (.inl hi)]]
   have : (bS w c).2 = false := by
    unfold bS
    rw [if_neg (by rw [h1]; decide), if_neg (by rw [h1]; decide), if_neg (by rw [h1]; decide)]
    simp [hc.1, hc.2]
   rw [this]; rfl
  by_cases h2 : c.k = aY
  ·have hc := FA (.inr h2)
   rw [show du n i prev c s = none by unfold du; rw [if_neg h1, if_pos h2, if_pos (.inl hlt)]]
   have : (bS w c).2 = false := by
    unfold bS
    rw [if_neg (by rw [h2]; decide), if_neg (by rw [h2]; decide), if_neg (by rw [h2]; decide)]
    simp [hc.1, hc.2]
   rw [this]; rfl
  by_cases h3 : c.k = ba
  ·have e : bS w c = (⟨w.plte, w.trns, true, w.ka⟩, !w.ka) := by unfold bS; rw [if_pos h3]
   rw [e]
   by_cases h4 : 0 < s.gh ∧ prev ≠ ba
   ·rw [show du n i prev c s = none by unfold du; rw [if_neg h1, if_neg h2, if_pos h3, if_pos h4]]
    rw [h.ka, decide_eq_true h4]; rfl
   ·rw [show du n i prev c s = some { s with gh := s.gh + 1 } by unfold du; rw [if_neg h1, if_neg h2, if_pos h3, if_neg h4]]
    rw [h.ka, decide_eq_false h4]
    simp only [Bool.not_false, if_true]
    refine pZ (by simp) (by omega) hn2 ⟨h.gW, h.ends, h.plte, h.trns, by simp, ?_, hp⟩
    simp [h3]
  by_cases h4 : c.k = aN
  ·by_cases h5 : 0 < s.gh ∨ 0 < s.fG
   ·rw [show du n i prev c s = none by unfold du; rw [if_neg h1, if_neg h2, if_neg h3, if_pos h4, if_pos h5]]
    have : (bS w c).2 = false := by
     unfold bS
     rw [if_neg h3, if_pos h4, h.trns, h.bW]
     by_cases h6 : 0 < s.fG
     ·simp [h6]
     ·have h7 : 0 < s.gh := by omega
      simp [h6, h7]
    rw [this]; rfl
   ·have h6 : ¬ 0 < s.fG := fun hh => h5 (.inr hh)
    have h7 : ¬ 0 < s.gh := fun hh => h5 (.inl hh)
    rw [show du n i prev c s = some { s with gV := s.gV + 1 } by unfold du; rw [if_neg h1, if_neg h2, if_neg h3, if_pos h4, if_neg h5]]
    have e : bS w c = (⟨true, w.trns, w.bW, w.bW⟩, !w.plte && !w.bW) := by
     unfold bS
     rw [if_neg h3, if_pos h4, h.trns]
     simp [h6]
    rw [e, h.plte, h.bW]
    by_cases h8 : 0 < s.gV
    ·rw [show (!decide (0 < s.gV) && !decide (0 < s.gh)) = false by simp [h8]]
     simp only [Bool.false_eq_true, if_false]
     exact sD (.inl (by simp only; omega))
    ·rw [show (!decide (0 < s.gV) && !decide (0 < s.gh)) = true by simp [h8, h7]]
     simp only [if_true]
     refine pZ (by simp) (by omega) hn2 ⟨h.gW, h.ends, by simp, h.trns, by simp [h7], ?_, by simp only; omega, hp.2⟩
     simp [h7]
  by_cases h5 : c.k = aS
  ·have e : bS w c = (⟨w.plte, true, w.bW, w.bW⟩, !w.trns && !w.bW) := by unfold bS; rw [if_neg h3, if_neg h4, if_pos h5]
   rw [e, h.trns, h.bW]
   by_cases h7 : 0 < s.gh
   ·rw [show du n i prev c s = none by unfold du; rw [if_neg h1, if_neg h2, if_neg h3, if_neg h4, if_pos h5, if_pos h7]]
    simp [h7]
   ·rw [show du n i prev c s = some { s with fG := s.fG + 1 } by unfold du; rw [if_neg h1, if_neg h2, if_neg h3, if_neg h4, if_pos h5, if_neg h7]]
    by_cases h8 : 0 < s.fG
    ·rw [show (!decide (0 < s.fG) && !decide (0 < s.gh)) = false by simp [h8]]
     simp only [Bool.false_eq_true, if_false]
     exact sD (.inr (.inl (by simp only; omega)))
    ·rw [show (!decide (0 < s.fG) && !decide (0 < s.gh)) = true by simp [h8, h7]]
     simp only [if_true]
     refine pZ (by simp) (by omega) hn2 ⟨h.gW, h.ends, h.plte, by simp, by simp [h7], ?_, hp.1, by simp only; omega⟩
     simp [h7]
  ·have e : bS w c = (⟨w.plte, w.trns, w.bW, w.bW⟩, decide (cY c.k) && !decide (fI c.k)) := by unfold bS; rw [if_neg h3, if_neg h4, if_neg h5]
   rw [e]
   by_cases h6 : ¬ cY c.k ∨ fI c.k
   ·rw [show du n i prev c s = none by unfold du; rw [if_neg h1, if_neg h2, if_neg h3, if_neg h4, if_neg h5, if_pos h6]]
    have : (decide (cY c.k) && !decide (fI c.k)) = false := by
     rcases h6 with h | h <;> simp [h]
    simp [this]
   ·rw [show du n i prev c s = some s by unfold du; rw [if_neg h1, if_neg h2, if_neg h3, if_neg h4, if_neg h5, if_neg h6]]
    have : (decide (cY c.k) && !decide (fI c.k)) = true := by
     have a : cY c.k := Classical.byContradiction fun hh => h6 (.inl hh)
     have b : ¬ fI c.k := fun hh => h6 (.inr hh)
     simp [a, b]
    simp only [this, if_true]
    refine pZ (by simp) (by omega) hn2 ⟨h.gW, h.ends, h.plte, h.trns, h.bW, ?_, hp⟩
    rw [h.bW]
    have : c.k ≠ ba := h3
    simp [this]
theorem LD (l : List Ch) : kD l.length 0 [] l ⟨0, 0, 0, 0, 0⟩ = cD l := by
 match l with
 | [] => rfl
 | [c] =>
  have e : cD [c] = false := by simp [cD]
  rw [e]
  unfold kD
  split
  ·rfl
  ·rename_i s2 h
   unfold du at h
   simp only [kD, sk]
   split at h
   ·split at h <;> cases h; simp
   ·split at h
    ·split at h <;> cases h; simp
    ·split at h
     ·split at h <;> cases h; simp
     ·split at h
      ·split at h <;> cases h; simp
      ·split at h
       ·split at h <;> cases h; simp
       ·split at h <;> cases h; simp
 | c :: c2 :: l =>
  rw [kD]
  by_cases h1 : c.k = bQ
  ·by_cases h2 : c.d.length = 13
   ·rw [show du (c :: c2 :: l).length 0 [] c ⟨0, 0, 0, 0, 0⟩ = some ⟨1, 0, 0, 0, 0⟩ by unfold du; rw [if_pos h1, if_neg (by rintro (h | h); omega; exact h h2)]]
    simp only
    rw [pZ (w := ⟨false, false, false, false⟩) (by simp) (by omega) (by simp only [List.length_cons]; omega) ⟨rfl, rfl, by simp, by simp, by simp, by simp, by simp, by simp⟩]
    unfold cD p9
    have e1 : ((c :: c2 :: l).map Ch.k).getD 0 [] = bQ := h1
    have e2 : ((c :: c2 :: l).map (·.d.length)).getD 0 0 = 13 := h2
    have e3 : ((c :: c2 :: l).drop 1).take ((c :: c2 :: l).length - 2) = (c2 :: l).take ((c2 :: l).length - 1) := by simp
    have e4 : ((c :: c2 :: l).map Ch.k).getD ((c :: c2 :: l).length - 1) [] = ((c2 :: l).map Ch.k).getD ((c2 :: l).length - 1) [] := rfl
    have e5 : ((c :: c2 :: l).map (·.d.length)).getD ((c :: c2 :: l).length - 1) 0 = ((c2 :: l).map (·.d.length)).getD ((c2 :: l).length - 1) 0 := rfl
    rw [e1, e2, e3, e4, e5]
    rcases Nat.eq_zero_or_pos l.length with h0 | h0
    ·have hl : l = [] := List.length_eq_zero_iff.1 h0
     subst hl
     simp [walk]
    ·rw [decide_eq_true (p := 3 ≤ (c :: c2 :: l).length) (by simp only [List.length_cons]; omega)]
     rw [show (bQ == bQ) = true by decide, show ((13 : Nat) == 13) = true from rfl]
     have hb : ∀ a b m : Bool, (m && a && b) = (true && true && true && a && b && m) := by decide
     exact hb _ _ _
   ·rw [show du (c :: c2 :: l).length 0 [] c ⟨0, 0, 0, 0, 0⟩ = none by unfold du; rw [if_pos h1, if_pos (.inr h2)]]
    have e2 : ((c :: c2 :: l).map (·.d.length)).getD 0 0 = c.d.length := rfl
    have e3 : (c.d.length == 13) = false := by simpa using h2
    unfold cD
    rw [e2, e3]
    simp
  ·have e1 : ((c :: c2 :: l).map Ch.k).getD 0 [] = c.k := rfl
   have e3 : (c.k == bQ) = false := by simpa using h1
   have e4 : cD (c :: c2 :: l) = false := by unfold cD; rw [e1, e3]; simp
   rw [e4]
   split
   ·rfl
   ·rename_i s2 h
    have hz : s2.gW = 0 := by
     unfold du at h
     rw [if_neg h1] at h
     split at h
     ·split at h <;> cases h; rfl
     ·split at h
      ·split at h <;> cases h; rfl
      ·split at h
       ·split at h <;> cases h; rfl
       ·split at h
        ·split at h <;> cases h; rfl
        ·split at h <;> cases h; rfl
    exact sD (.inr (.inr ⟨by omega, hz⟩))
end Go.aa
namespace Go.aa
open Go.af
def off (a b : Int) : Int := max (a - b) (b - a)
def rm (a b c : Int) : Int :=
  if off (a + b - c) a ≤ off (a + b - c) b ∧ off (a + b - c) a ≤ off (a + b - c) c then a else if off (a + b - c) b ≤ off (a + b - c) c then b else c
def mO (kind a b c : Int) : Int := if kind = 1 then a else if kind = 2 then b else if kind = 3 then (a + b) / 2 else if kind = 4 then rm a b c else 0
def gz (l : List Int) (i back : Nat) : Int := if i < back then 0 else l.getD (i - back) 0
def jt (kind : Int) (row above : List Int) (back : Nat) (out : List Int) (i : Nat) : Int := (row.getD i 0 + mO kind (gz out i back) (above.getD i 0) (gz above i back)) % 256
def iD (kind : Int) (row above : List Int) (back : Nat) : Nat → List Int
  | 0 => []
  | i + 1 => iD kind row above back i ++ [jt kind row above back (iD kind row above back i) i]
def eJ (kind : Int) (row above : List Int) (back : Nat) : List Int := iD kind row above back row.length
theorem mc (kind : Int) (row above : List Int) (back : Nat) : ∀ i, (iD kind row above back i).length = i
  | 0 => rfl
  | i + 1 => by simp [iD, mc kind row above back i]
theorem uq (kind : Int) (row above : List Int) (back : Nat) : (eJ kind row above back).length = row.length := mc ..
theorem sa (kind : Int) (row above : List Int) (back : Nat) : ∀ i, ak (iD kind row above back i)
  | 0 => fun x hx => by cases hx
  | i + 1 => aJ.ak.snoc (sa kind row above back i) (by unfold jt; omega)
theorem Pl {a b : List Int} {i back : Nat} (ha : a.length = i) (hb : 0 < back) : gz (a ++ b) i back = gz a i back := by
  unfold gz
  split
  · rfl
  · rw [List.getD_eq_getElem?_getD, List.getD_eq_getElem?_getD, List.getElem?_append_left (by omega)]
theorem Jj {l : List Int} (h : ak l) (i back : Nat) : 0 ≤ gz l i back ∧ gz l i back < 256 := by
  unfold gz
  split
  · decide
  · exact h.get _
structure Ps where
  x : Int
  y : Int
  dx : Int
  dy : Int
  w : Int
  h : Int
def many (frm step end_ : Int) : Int := if end_ ≤ frm then 0 else (end_ - frm + step - 1) / step
def sW (x y dx dy w h : Int) : Ps := ⟨x, y, dx, dy, many x dx w, many y dy h⟩
def hI (w h : Int) : List Ps := [sW 0 0 8 8 w h, sW 4 0 8 8 w h, sW 0 4 4 8 w h, sW 2 0 4 4 w h, sW 0 2 2 4 w h, sW 1 0 2 2 w h, sW 0 1 1 2 w h]
def eS (w h : Int) : List Ps := (hI w h).filter fun p => decide (0 < p.w) && decide (0 < p.h)
def whole (w h : Int) : List Ps := [⟨0, 0, 1, 1, w, h⟩]
def aW (w h : Int) : Int := if w < 1 ∨ h < 1 then 1 else if 256 < w ∨ 256 < h ∨ 16384 / h < w then 6 else 0
def dv (w bits : Int) : Int := (w * bits + 7) / 8
def eY (l : List Ps) (bits : Int) : Int := (l.map fun p => if 0 < p.w then p.h * (1 + dv p.w bits) else 0).sum
structure Hd where
  w : Int
  h : Int
  dep : Int
  ar : Int
  aZ : Bool
def parts (c : Int) : Int := if c = 0 ∨ c = 3 then 1 else if c = 2 then 3 else if c = 4 then 2 else if c = 6 then 4 else 0
def deep (c d : Int) : Prop := (c = 0 ∧ (d = 1 ∨ d = 2 ∨ d = 4 ∨ d = 8 ∨ d = 16)) ∨ (c = 3 ∧ (d = 1 ∨ d = 2 ∨ d = 4 ∨ d = 8)) ∨ ((c = 2 ∨ c = 4 ∨ c = 6) ∧ (d = 8 ∨ d = 16))
instance (c d : Int) : Decidable (deep c d) := by unfold deep; infer_instance
def aL (B : List Int) : Hd := ⟨aH.cV B, aH.cV (B.drop 4), B.getD 8 0, B.getD 9 0, decide (B.getD 12 0 = 1)⟩
def eF (B : List Int) : Int :=
  if B.length ≠ 13 then 4
  else if ¬ deep (aL B).ar (aL B).dep ∨ 0 < B.getD 10 0 + B.getD 11 0 ∨ 1 < B.getD 12 0 ∨ (aL B).w = 0 ∨ (aL B).h = 0 then 4
  else if aW (aL B).w (aL B).h = 0 then 0 else 6
def fJ (B : List Int) (i : Nat) : Int := B.getD (i / 8) 0 / 2 ^ (7 - i % 8) % 2
def bM (B : List Int) (at_ : Nat) : Nat → Int
  | 0 => 0
  | n + 1 => 2 * bM B at_ n + fJ B (at_ + n)
structure Fl where
  hd : Hd
  plte : List Int
  trns : List Int
def bu (l : List Ch) (k : List Int) : List Int := match l.find? (fun c => c.k == k) with | some c => c.d | none => []
def dX (l : List Ch) (k : List Int) : Bool := l.any fun c => c.k == k
def bW (l : List Ch) : List Int := (l.filter fun c => c.k == ba).flatMap (·.d)
def mh (h : Hd) (plte : List Int) (has : Bool) (trns : List Int) (is : Bool) : Prop :=
  (if has then ¬ (h.ar = 0 ∨ h.ar = 4) ∧ (h.ar = 3 → (plte.length : Int) / 3 ≤ 2 ^ h.dep.toNat) ∧ plte.length % 3 = 0 ∧ 0 < plte.length ∧ plte.length / 3 ≤ 256 else h.ar ≠ 3) ∧
  (is = true → (h.ar = 3 ∧ trns.length ≤ plte.length / 3) ∨ (h.ar = 0 ∧ trns.length = 2) ∨ (h.ar = 2 ∧ trns.length = 6))
instance (h : Hd) (plte : List Int) (has : Bool) (trns : List Int) (is : Bool) : Decidable (mh h plte has trns is) := by unfold mh; infer_instance
def dJ (h : Hd) (row : List Int) (x : Nat) : List Int := (List.range (parts h.ar).toNat).map fun i => bM row (x * (parts h.ar).toNat * h.dep.toNat + i * h.dep.toNat) h.dep.toNat
def R0 (h : Hd) (v : Int) : Int := v * (65535 / (2 ^ h.dep.toNat - 1))
def aR (h : Hd) (trns : List Int) : List Int := if h.ar = 0 ∨ h.ar = 2 then (List.range (trns.length / 2)).map fun i => (trns.getD (2 * i) 0 * 256 + trns.getD (2 * i + 1) 0) % 2 ^ h.dep.toNat else []
def fy (f : Fl) (v : List Int) : Option (List Int) :=
  if f.hd.ar = 3 then
    (if (f.plte.length / 3 : Nat) ≤ (v.getD 0 0).toNat then none
     else some [f.plte.getD (3 * (v.getD 0 0).toNat) 0 * 257, f.plte.getD (3 * (v.getD 0 0).toNat + 1) 0 * 257, f.plte.getD (3 * (v.getD 0 0).toNat + 2) 0 * 257, if (v.getD 0 0).toNat < f.trns.length then f.trns.getD (v.getD 0 0).toNat 0 * 257 else 65535])
  else
    let u := v.map (R0 f.hd)
    let a := if 0 < (aR f.hd f.trns).length ∧ v = aR f.hd f.trns then 0 else if f.hd.ar = 4 ∨ f.hd.ar = 6 then u.getD (u.length - 1) 0 else 65535
    if f.hd.ar = 0 ∨ f.hd.ar = 4 then some [u.getD 0 0, u.getD 0 0, u.getD 0 0, a] else some [u.getD 0 0, u.getD 1 0, u.getD 2 0, a]
def kW (w : Int) (pix : List Int) (x y : Int) (c : List Int) : List Int := pix.take (4 * (y * w + x)).toNat ++ c ++ pix.drop ((4 * (y * w + x)).toNat + 4)
def dS (f : Fl) (p : Ps) (y : Int) (row : List Int) : Nat → Nat → List Int → Option (List Int)
  | 0, _, pix => some pix
  | k + 1, i, pix => match fy f (dJ f.hd row i) with
    | none => none
    | some c => dS f p y row k (i + 1) (kW f.hd.w pix (p.x + i * p.dx) (p.y + y * p.dy) c)
def eg (f : Fl) (D : List Int) (n back : Nat) (p : Ps) : Nat → Nat → Nat → List Int → List Int → Option (Nat × List Int)
  | 0, _, at_, _, pix => some (at_, pix)
  | k + 1, y, at_, above, pix =>
    if 4 < D.getD at_ 0 then none
    else match dS f p y (eJ (D.getD at_ 0) ((D.drop (at_ + 1)).take n) above back) p.w.toNat 0 pix with
    | none => none
    | some pix2 => eg f D n back p k (y + 1) (at_ + 1 + n) (eJ (D.getD at_ 0) ((D.drop (at_ + 1)).take n) above back) pix2
def bitsOf (h : Hd) : Int := parts h.ar * h.dep
def eu (f : Fl) (D : List Int) : List Ps → Nat → List Int → Option (List Int)
  | [], _, pix => some pix
  | p :: l, at_, pix => match eg f D (dv p.w (bitsOf f.hd)).toNat (max 1 (bitsOf f.hd / 8)).toNat p p.h.toNat 0 at_ [] pix with
    | none => none
    | some (at2, pix2) => eu f D l at2 pix2
def aO (h : Hd) : List Ps := if h.aZ then eS h.w h.h else whole h.w h.h
structure pH where
  w : Int
  h : Int
  pix : List Int
def dC : pH := ⟨0, 0, []⟩
def jV (B : List Int) (r : pH × Int) : Prop :=
  match cut B with
  | .error e => r = (dC, e)
  | .ok l =>
    if cD l = false then r = (dC, 4)
    else if eF ((l.map Ch.d).getD 0 []) ≠ 0 then r = (dC, eF ((l.map Ch.d).getD 0 []))
    else if ¬ mh (aL ((l.map Ch.d).getD 0 [])) (bu l aN) (dX l aN) (bu l aS) (dX l aS) then r = (dC, 4)
    else ∃ q, aH.lZ (bW l) (eY (aO (aL ((l.map Ch.d).getD 0 []))) (bitsOf (aL ((l.map Ch.d).getD 0 [])))) q ∧
      if q.2 ≠ 0 then r = (dC, q.2)
      else if (q.1.length : Int) < eY (aO (aL ((l.map Ch.d).getD 0 []))) (bitsOf (aL ((l.map Ch.d).getD 0 []))) then r = (dC, 2)
      else match eu ⟨aL ((l.map Ch.d).getD 0 []), bu l aN, bu l aS⟩ q.1 (aO (aL ((l.map Ch.d).getD 0 []))) 0 (List.replicate (4 * (aL ((l.map Ch.d).getD 0 [])).w * (aL ((l.map Ch.d).getD 0 [])).h).toNat 0) with
        | none => r = (dC, 4)
        | some pix => r = (⟨(aL ((l.map Ch.d).getD 0 [])).w, (aL ((l.map Ch.d).getD 0 [])).h, pix⟩, 0)
end Go.aa
namespace Go.aa
open Go.af
theorem zA {frm step e k : Int} (hs : step = 1 ∨ step = 2 ∨ step = 4 ∨ step = 8) (hk : 0 ≤ k) : frm + k * step < e ↔ k < many frm step e := by
  unfold many
  rcases hs with rfl | rfl | rfl | rfl <;> split <;> omega
theorem Bv {frm step e : Int} (hs : step = 1 ∨ step = 2 ∨ step = 4 ∨ step = 8) : 0 ≤ many frm step e := by
  unfold many
  rcases hs with rfl | rfl | rfl | rfl <;> split <;> omega
theorem Bb {frm step e : Int} (hf : 0 ≤ frm) (he : 0 ≤ e) (hs : step = 1 ∨ step = 2 ∨ step = 4 ∨ step = 8) : many frm step e ≤ e := by
  unfold many
  rcases hs with rfl | rfl | rfl | rfl <;> split <;> omega
theorem ri (B : List Int) (i : Nat) : 0 ≤ fJ B i ∧ fJ B i ≤ 1 := by unfold fJ; omega
theorem lI (B : List Int) (at_ : Nat) : ∀ n : Nat, 0 ≤ bM B at_ n ∧ bM B at_ n < 2 ^ n
  | 0 => by simp [bM]
  | n + 1 => by
    have ih := lI B at_ n
    have hb := ri B (at_ + n)
    simp only [bM]
    have e : (2 : Int) ^ (n + 1) = 2 * 2 ^ n := by rw [Int.pow_succ]; omega
    rw [e]
    omega
theorem tT (B : List Int) (at_ m : Nat) : ∀ n, bM B at_ (m + n) = bM B at_ m * 2 ^ n + bM B (at_ + m) n
  | 0 => by simp [bM]
  | n + 1 => by
    have ih := tT B at_ m n
    have e : bM B at_ m * (2 ^ n * 2) = (bM B at_ m * 2 ^ n) * 2 := (Int.mul_assoc _ _ _).symm
    rw [← Nat.add_assoc, bM, ih, bM, Int.pow_succ, e, Nat.add_assoc]
    omega
theorem km (B : List Int) (j k : Nat) (hk : k < 8) : fJ B (8 * j + k) = B.getD j 0 / 2 ^ (7 - k) % 2 := by
  unfold fJ
  rw [show (8 * j + k) / 8 = j by omega, show (8 * j + k) % 8 = k by omega]
theorem GL (B : List Int) (a : Nat) : bM B a 8 = 2 * (2 * (2 * (2 * (2 * (2 * (2 * (2 * 0 + fJ B (a + 0)) + fJ B (a + 1)) + fJ B (a + 2)) + fJ B (a + 3)) + fJ B (a + 4)) + fJ B (a + 5)) + fJ B (a + 6)) + fJ B (a + 7) := rfl
theorem Uw {x : Int} (h : 0 ≤ x ∧ x < 256) : 2 * (2 * (2 * (2 * (2 * (2 * (2 * (2 * 0 + x / 128 % 2) + x / 64 % 2) + x / 32 % 2) + x / 16 % 2) + x / 8 % 2) + x / 4 % 2) + x / 2 % 2) + x / 1 % 2 = x := by omega
theorem mr {B : List Int} {j : Nat} (hb : 0 ≤ B.getD j 0 ∧ B.getD j 0 < 256) : bM B (8 * j) 8 = B.getD j 0 := by
  rw [GL, km B j 0 (by decide), km B j 1 (by decide), km B j 2 (by decide), km B j 3 (by decide), km B j 4 (by decide), km B j 5 (by decide), km B j 6 (by decide), km B j 7 (by decide)]
  exact Uw hb
theorem qy {B : List Int} {j : Nat} (hb : 0 ≤ B.getD j 0 ∧ B.getD j 0 < 256) (hc : 0 ≤ B.getD (j + 1) 0 ∧ B.getD (j + 1) 0 < 256) : bM B (8 * j) 16 = B.getD j 0 * 256 + B.getD (j + 1) 0 := by
  have h := tT B (8 * j) 8 8
  rw [mr hb, show 8 * j + 8 = 8 * (j + 1) by omega, mr hc] at h
  simpa using h
end Go.aa
namespace Go.aa
open Go.af
def ng (n : Int) : List Int := [n / 16777216 % 256, n / 65536 % 256, n / 256 % 256, n % 256]
theorem Bo (n : Int) : (ng n).length = 4 := rfl
theorem zR (n : Int) : ak (ng n) := fun x hx => by
  simp only [ng, List.mem_cons, List.not_mem_nil, or_false] at hx
  rcases hx with rfl | rfl | rfl | rfl <;> omega
theorem AU {n : Int} (h : 0 ≤ n ∧ n < 4294967296) (r : List Int) : aH.cV (ng n ++ r) = n := by
  simp only [aH.cV, ng, List.cons_append, List.nil_append, List.getD_cons_zero, List.getD_cons_succ]
  omega
def eA (c : Ch) : List Int := ng (c.d.length : Int) ++ (c.k ++ (c.d ++ ng (gj c.k c.d)))
theorem gN {c : Ch} (hk : c.k.length = 4) : (eA c).length = 12 + c.d.length := by
  simp only [eA, List.length_append, Bo, hk]; omega
def js (c : Ch) : Prop := cY c.k ∧ ak c.d ∧ c.d.length ≤ 2147483647
theorem qF {k : List Int} (h : cY k) : ak k := fun x hx => by
  have := h.2 x hx
  unfold jL at this; omega
theorem O6 {k d : List Int} (hk : ak k) (hd : ak d) : 0 ≤ gj k d ∧ gj k d < 4294967296 := tM (tM (by decide) hk) hd
theorem KR {c : Ch} (h : js c) : ak (eA c) := aJ.ak.app (zR _) (aJ.ak.app (qF h.1) (aJ.ak.app h.2.1 (zR _)))
theorem sY {c : Ch} (h : js c) (r : List Int) : first (eA c ++ r) = .ok c := by
  obtain ⟨hk, hd, hl⟩ := h
  have h4 := hk.1
  have hs := O6 (qF hk) hd
  have e0 : eA c ++ r = ng (c.d.length : Int) ++ (c.k ++ (c.d ++ (ng (gj c.k c.d) ++ r))) := by simp [eA]
  have d4 : (eA c ++ r).drop 4 = c.k ++ (c.d ++ (ng (gj c.k c.d) ++ r)) := by rw [e0]; exact List.drop_left' rfl
  have e1 : ((eA c ++ r).drop 4).take 4 = c.k := by rw [d4]; exact List.take_left' h4
  have d8 : (eA c ++ r).drop 8 = c.d ++ (ng (gj c.k c.d) ++ r) := by
    rw [show 8 = 4 + 4 from rfl, ← List.drop_drop, d4]
    exact List.drop_left' h4
  have e2 : ((eA c ++ r).drop 8).take c.d.length = c.d := by rw [d8]; exact List.take_left
  have e3 : (eA c ++ r).drop (8 + c.d.length) = ng (gj c.k c.d) ++ r := by
    rw [← List.drop_drop, d8]; exact List.drop_left
  have e4 : aH.cV (eA c ++ r) = (c.d.length : Int) := by rw [e0]; exact AU (by omega) _
  have e5 : (eA c ++ r).length = 12 + c.d.length + r.length := by rw [List.length_append, gN h4]
  unfold first
  rw [if_neg (by omega), e4, Int.toNat_natCast, e1, if_neg (by rintro (h | h); omega; exact h hk), if_neg (by omega), e2, e3, AU hs, if_pos rfl]
def gw (l : List Ch) : List Int := l.flatMap eA
theorem vf {e : Ch} (he : js e) (hek : e.k = aY) : ∀ (l : List Ch) (f : Nat) (a : List Ch), (∀ c ∈ l, js c ∧ c.k ≠ aY) → l.length < f → fx f (gw (l ++ [e])) a = .ok (a ++ (l ++ [e]))
  | [], f, a, _, hf => by
    obtain ⟨f, rfl⟩ : ∃ g, f = g + 1 := ⟨f - 1, by simp at hf; omega⟩
    have e1 : gw ([] ++ [e]) = eA e ++ [] := by simp [gw]
    rw [e1, fx, sY he]
    simp only
    rw [if_pos hek, List.append_nil, gN he.1.1, Nat.sub_self, if_pos rfl]
    simp
  | c :: l, f, a, hl, hf => by
    obtain ⟨f, rfl⟩ : ∃ g, f = g + 1 := ⟨f - 1, by simp at hf; omega⟩
    have hc := hl c (by simp)
    have e1 : gw (c :: l ++ [e]) = eA c ++ gw (l ++ [e]) := by simp [gw]
    have e2 : (eA c ++ gw (l ++ [e])).drop (12 + c.d.length) = gw (l ++ [e]) := List.drop_left' (gN hc.1.1.1)
    rw [e1, fx, sY hc.1]
    simp only
    rw [if_neg hc.2, e2, vf he hek l f _ (fun x hx => hl x (by simp [hx])) (by simp at hf; omega)]
    simp
theorem rA : ∀ l : List Ch, (∀ c ∈ l, js c) → l.length ≤ (gw l).length
  | [], _ => Nat.zero_le _
  | c :: l, h => by
    have ih := rA l (fun x hx => h x (by simp [hx]))
    have := gN (h c (by simp)).1.1
    have e : gw (c :: l) = eA c ++ gw l := by simp [gw]
    rw [e, List.length_append, List.length_cons]
    omega
def aU (l : List Ch) : List Int := ee ++ gw l
theorem yh {l : List Ch} {e : Ch} (he : js e) (hek : e.k = aY) (hl : ∀ c ∈ l, js c ∧ c.k ≠ aY) (hn : (aU (l ++ [e])).length ≤ 262144) : cut (aU (l ++ [e])) = .ok (l ++ [e]) := by
  have h8 : (aU (l ++ [e])).length = 8 + (gw (l ++ [e])).length := by simp [aU, ee]; omega
  have e1 : (aU (l ++ [e])).take 8 = ee := List.take_left' rfl
  have e2 : (aU (l ++ [e])).drop 8 = gw (l ++ [e]) := List.drop_left' rfl
  have hge := rA (l ++ [e]) (fun c hc => by
    rcases List.mem_append.1 hc with h | h
    · exact (hl c h).1
    · rw [List.mem_singleton.1 h]; exact he)
  unfold cut
  rw [if_neg (by omega), if_neg (by omega), if_pos e1, e2]
  have := vf he hek l ((aU (l ++ [e])).length + 1) [] hl (by rw [List.length_append, List.length_singleton] at hge; omega)
  simpa using this
theorem vJ {l : List Ch} (h : ∀ c ∈ l, js c) : ak (aU l) := by
  have hs : ak ee := by unfold ak; decide
  refine aJ.ak.app hs (fun x hx => ?_)
  obtain ⟨c, hc, hx⟩ := List.mem_flatMap.1 hx
  exact KR (h c hc) x hx
end Go.aa
namespace Go.aa
open Go.af
def dq (l : List Ch) : List Int := (l.map Ch.d).getD 0 []
def oG (l : List Ch) : Fl := ⟨aL (dq l), bu l aN, bu l aS⟩
def want (h : Hd) : Int := eY (aO h) (bitsOf h)
def iZ (h : Hd) : List Int := List.replicate (4 * h.w * h.h).toNat 0
inductive Pw (B : List Int) (r : pH × Int) : Prop
  | cut (e : Int) (h : cut B = .error e) (hr : r = (dC, e))
  | ord (l : List Ch) (h : aa.cut B = .ok l) (ho : cD l = false) (hr : r = (dC, 4))
  | head (l : List Ch) (h : aa.cut B = .ok l) (ho : cD l = true) (hh : eF (dq l) ≠ 0) (hr : r = (dC, eF (dq l)))
  | table (l : List Ch) (h : aa.cut B = .ok l) (ho : cD l = true) (hh : eF (dq l) = 0) (ht : ¬ mh (aL (dq l)) (bu l aN) (dX l aN) (bu l aS) (dX l aS)) (hr : r = (dC, 4))
  | open_ (l : List Ch) (q : List Int × Int) (h : aa.cut B = .ok l) (ho : cD l = true) (hh : eF (dq l) = 0) (ht : mh (aL (dq l)) (bu l aN) (dX l aN) (bu l aS) (dX l aS)) (hq : aH.lZ (bW l) (want (aL (dq l))) q)
      (hr : (q.2 ≠ 0 ∧ r = (dC, q.2)) ∨ (q.2 = 0 ∧ (q.1.length : Int) < want (aL (dq l)) ∧ r = (dC, 2)) ∨
        (q.2 = 0 ∧ want (aL (dq l)) ≤ q.1.length ∧ eu (oG l) q.1 (aO (aL (dq l))) 0 (iZ (aL (dq l))) = none ∧ r = (dC, 4)) ∨
        ∃ pix, q.2 = 0 ∧ want (aL (dq l)) ≤ q.1.length ∧ eu (oG l) q.1 (aO (aL (dq l))) 0 (iZ (aL (dq l))) = some pix ∧ r = (⟨(aL (dq l)).w, (aL (dq l)).h, pix⟩, 0))
theorem jV.ways {B : List Int} {r : pH × Int} (h : jV B r) : Pw B r := by
  unfold jV at h
  cases hc : cut B with
  | error e => rw [hc] at h; exact .cut e hc h
  | ok l =>
    rw [hc] at h
    simp only at h
    split at h
    · rename_i ho; exact .ord l hc ho h
    · rename_i ho
      have ho : cD l = true := by simpa using ho
      split at h
      · rename_i hh; exact .head l hc ho hh h
      · rename_i hh
        have hh : eF (dq l) = 0 := by simpa [dq] using hh
        split at h
        · rename_i ht; exact .table l hc ho hh ht h
        · rename_i ht
          have ht := Classical.not_not.1 ht
          obtain ⟨q, hq, h⟩ := h
          refine .open_ l q hc ho hh ht hq ?_
          split at h
          · rename_i h1; exact .inl ⟨h1, h⟩
          · rename_i h1
            have h1 : q.2 = 0 := by simpa using h1
            split at h
            · rename_i h2; exact .inr (.inl ⟨h1, h2, h⟩)
            · rename_i h2
              have h2 : want (aL (dq l)) ≤ q.1.length := Int.not_lt.1 h2
              split at h
              · rename_i h3; exact .inr (.inr (.inl ⟨h1, h2, h3, h⟩))
              · rename_i pix h3; exact .inr (.inr (.inr ⟨pix, h1, h2, h3, h⟩))
theorem wQ : ∀ {f : Nat} {L : List Int} {a l : List Ch}, ak L → (∀ c ∈ a, ak c.d) → fx f L a = .ok l → ∀ c ∈ l, ak c.d
  | 0, L, a, l, _, _, h => by cases h
  | f + 1, L, a, l, hL, ha, h => by
    rw [fx] at h
    split at h
    · cases h
    · rename_i c hc
      have hd : ak c.d := by
        unfold first at hc
        split at hc
        · cases hc
        · split at hc
          · cases hc
          · split at hc
            · cases hc
            · split at hc
              · cases hc
                exact fun x hx => hL x (List.mem_of_mem_drop (List.mem_of_mem_take hx))
              · cases hc
      have ha2 : ∀ y ∈ a ++ [c], ak y.d := fun y hy => by
        rcases List.mem_append.1 hy with hy | hy
        · exact ha y hy
        · rw [List.mem_singleton.1 hy]; exact hd
      split at h
      · split at h
        · cases h; exact ha2
        · cases h
      · exact wQ (fun x hx => hL x (List.mem_of_mem_drop hx)) ha2 h
theorem iW {B : List Int} {l : List Ch} (hB : ak B) (h : cut B = .ok l) : ∀ c ∈ l, ak c.d := by
  unfold cut at h
  split at h
  · cases h
  · split at h
    · cases h
    · split at h
      · exact wQ (fun x hx => hB x (List.mem_of_mem_drop hx)) (fun c hc => by cases hc) h
      · cases h
theorem rP {l : List Ch} (h : ∀ c ∈ l, ak c.d) : ak (bW l) := fun x hx => by
  obtain ⟨c, hc, hx⟩ := List.mem_flatMap.1 hx
  exact h c (List.mem_filter.1 hc).1 x hx
end Go.aa

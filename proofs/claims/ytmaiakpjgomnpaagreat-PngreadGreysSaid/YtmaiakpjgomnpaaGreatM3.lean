/- Walks of functions that the law reaches, and what they lean on; no conditions. -/
import Derived.Test.YtmaiakpjgomnpaaGreatM2
import Derived.KernelRfl
set_option linter.unusedVariables false
set_option linter.unusedSimpArgs false
set_option maxRecDepth 100000
namespace Go.ab
open Go.af Go.ae
structure St where
  at_ : Nat
  out : List Int
  kind : Int
  left : Nat
  last : Bool
  lits : List Int
  dH : List Int
  aw : Nat
  bA : Nat
  ended : Bool
def fb : List Int := List.replicate 144 8 ++ List.replicate 112 9 ++ List.replicate 24 7 ++ List.replicate 8 8
def kq : List Int := List.replicate 32 5
def sym (ls B : List Int) (a : Nat) : Except Int (Int × Nat) := match tk ls B a with
  | .vw n s => .ok (s, a + n)
  | .short _ => .error 2
  | .none_ _ => .error 4
def cS (a : Nat) : Nat := (a + 7) / 8 * 8
def lq : List Int := [16, 17, 18, 0, 8, 7, 9, 6, 10, 5, 11, 4, 12, 3, 13, 2, 14, 1, 15]
def gK (B : List Int) (a : Nat) : Nat → List Int
  | 0 => List.replicate 19 0
  | i + 1 => (gK B a i).set (lq.getD i 0).toNat (aJ B (a + 3 * i) 3)
def oz (s : Int) : Nat := if s = 16 then 2 else if s = 17 then 3 else 7
def zf (s : Int) : Int := if s = 18 then 11 else 3
def L0 (s : Int) (l : List Int) : Int := if s = 16 then l.getD (l.length - 1) 0 else 0
def rep (B : List Int) (s : Int) (l : List Int) (a : Nat) : Except Int (Int × Int × Nat) :=
  if s < 16 then .ok (s, 1, a) else if 8 * B.length < a + oz s then .error 2 else if s = 16 ∧ l = [] then .error 4 else .ok (L0 s l, zf s + aJ B a (oz s), a + oz s)
def jP (B c l : List Int) (a : Nat) : Except Int (List Int × Nat) := match sym c B a with
  | .error e => .error e
  | .ok (s, a) => match rep B s l a with
    | .error e => .error e
    | .ok (x, n, a) => .ok (l ++ List.replicate n.toNat x, a)
def eG (B c : List Int) (tot : Nat) : Nat → List Int → Nat → Except Int (List Int × Nat)
  | 0, l, a => .ok (l, a)
  | f + 1, l, a => if l.length < tot then (match jP B c l a with
    | .error e => .error e
    | .ok (l', a') => if l'.length ≤ tot then eG B c tot f l' a' else .error 4) else .ok (l, a)
def hL (B : List Int) (a : Nat) : Nat := 257 + (aJ B a 5).toNat
def hD (B : List Int) (a : Nat) : Nat := 1 + (aJ B (a + 5) 5).toNat
def hC (B : List Int) (a : Nat) : Nat := 4 + (aJ B (a + 10) 4).toNat
def told (B : List Int) (a : Nat) : Except Int (Nat × List Int × List Int) :=
  if 8 * B.length < a + 14 then .error 2 else
  if ¬ (hL B a ≤ 286 ∧ hD B a ≤ 30) then .error 4 else
  if 8 * B.length < a + 14 + 3 * hC B a then .error 2 else
  if bb (gK B (a + 14) (hC B a)) ≠ 0 then .error 4 else
  match eG B (gK B (a + 14) (hC B a)) (hL B a + hD B a) (hL B a + hD B a) [] (a + 14 + 3 * hC B a) with
  | .error e => .error e
  | .ok (l, a') => if bb (l.take (hL B a)) ≠ 0 ∨ bb (l.drop (hL B a)) ≠ 0 ∨ l.getD 256 0 = 0 then .error 4 else .ok (a', l.take (hL B a), l.drop (hL B a))
def cM (B : List Int) (s : St) : Except Int St :=
  if 8 * B.length < s.at_ + 3 then .error 2 else
  if aJ B (s.at_ + 1) 2 = 0 then
    (if 8 * B.length < cS (s.at_ + 3) + 32 then .error 2 else
     if aJ B (cS (s.at_ + 3)) 16 = 65535 - aJ B (cS (s.at_ + 3) + 16) 16 then .ok { s with at_ := cS (s.at_ + 3) + 32, kind := 0, left := (aJ B (cS (s.at_ + 3)) 16).toNat, last := decide (aJ B s.at_ 1 = 1) } else .error 4) else
  if aJ B (s.at_ + 1) 2 = 1 then .ok { s with at_ := s.at_ + 3, kind := 1, last := decide (aJ B s.at_ 1 = 1), lits := fb, dH := kq } else
  if aJ B (s.at_ + 1) 2 = 2 then (match told B (s.at_ + 3) with
    | .error e => .error e
    | .ok (a, l, d) => .ok { s with at_ := a, kind := 2, last := decide (aJ B s.at_ 1 = 1), lits := l, dH := d }) else .error 4
def pO (s : Int) : Int := if s < 8 then 3 + s else if s = 28 then 258 else 3 + (4 + s % 4) * 2 ^ (s / 4 - 1).toNat
def mr (s : Int) : Nat := if s < 8 ∨ s = 28 then 0 else (s / 4 - 1).toNat
def sV (d : Int) : Int := if d < 4 then 1 + d else 1 + (2 + d % 2) * 2 ^ (d / 2 - 1).toNat
def mE (d : Int) : Nat := if d < 4 then 0 else (d / 2 - 1).toNat
def dP (bV : Int) (s : St) (y : Int) : Except Int St := if (s.out.length : Int) < bV then .ok { s with out := s.out ++ [y] } else .error 6
def dT (B : List Int) (bV : Int) (s : St) : Except Int St := match sym s.lits B s.at_ with
  | .error e => .error e
  | .ok (y, a) =>
    if y < 256 then dP bV { s with at_ := a } y else
    if y = 256 then .ok { s with at_ := a, kind := -1, ended := s.last } else
    if 286 ≤ y then .error 4 else
    if 8 * B.length < a + mr (y - 257) then .error 2 else
    match sym s.dH B (a + mr (y - 257)) with
    | .error e => .error e
    | .ok (d, a3) => if 30 ≤ d then .error 4 else if 8 * B.length < a3 + mE d then .error 2 else
      if sV d + aJ B a3 (mE d) ≤ s.out.length then .ok { s with at_ := a3 + mE d, aw := (pO (y - 257) + aJ B a (mr (y - 257))).toNat, bA := (sV d + aJ B a3 (mE d)).toNat } else .error 4
def one (B : List Int) (bV : Int) (s : St) : Except Int St :=
  if 0 < s.aw then dP bV { s with aw := s.aw - 1 } (s.out.getD (s.out.length - s.bA) 0) else
  if s.kind = -1 then cM B s else
  if s.kind ≠ 0 then dT B bV s else
  if s.left = 0 then .ok { s with kind := -1, ended := s.last } else
  if 8 * B.length < s.at_ + 8 then .error 2 else dP bV { s with at_ := s.at_ + 8, left := s.left - 1 } (aJ B s.at_ 8)
def start : St := ⟨0, [], -1, 0, false, [], [], 0, 0, false⟩
abbrev Oc := Except Int (List Int × Nat)
inductive je (B : List Int) (bV : Int) : St → Oc → Prop
  | done {s : St} : s.ended = true → je B bV s (.ok (s.out, (s.at_ + 7) / 8))
  | step {s s' : St} {o : Oc} : s.ended = false → one B bV s = .ok s' → je B bV s' o → je B bV s o
  | fail {s : St} {e : Int} : s.ended = false → one B bV s = .error e → je B bV s (.error e)
theorem je.Em {B : List Int} {bV : Int} {s : St} {o : Oc} (h : je B bV s o) : ∀ {o' : Oc}, je B bV s o' → o = o' := by
  induction h with
  | done h1 => intro o' h; cases h with
    | done _ => rfl
    | step h2 _ _ => rw [h1] at h2; cases h2
    | fail h2 _ => rw [h1] at h2; cases h2
  | step h1 h2 h3 ih => intro o' h; cases h with
    | done h4 => rw [h1] at h4; cases h4
    | step _ h5 h6 => rw [h2] at h5; cases h5; exact ih h6
    | fail _ h5 => rw [h2] at h5; cases h5
  | fail h1 h2 => intro o' h; cases h with
    | done h4 => rw [h1] at h4; cases h4
    | step _ h5 h6 => rw [h2] at h5; cases h5
    | fail _ h5 => rw [h2] at h5; cases h5; rfl
def gw (B : List Int) (bV : Int) (s s' : St) : Prop := ∀ o, je B bV s' o → je B bV s o
theorem gw.refl (B : List Int) (bV : Int) (s : St) : gw B bV s s := fun _ h => h
theorem gw.trans {B : List Int} {bV : Int} {s s' s'' : St} (h : gw B bV s s') (k : gw B bV s' s'') : gw B bV s s'' := fun o r => h o (k o r)
theorem gw.one {B : List Int} {bV : Int} {s s' : St} (h : s.ended = false) (k : one B bV s = .ok s') : gw B bV s s' := fun o r => .step h k r
def ig (ls : List Int) : Except Int Unit := if bb ls = 0 then .ok () else .error 4
section
variable {B l : List Int} {s : Int} {a : Nat}
theorem Nq (h : s < 16) : rep B s l a = .ok (s, 1, a) := if_pos h
theorem oY (h : ¬ s < 16) (hx : 8 * B.length < a + oz s) : rep B s l a = .error 2 := by unfold rep; rw [if_neg h, if_pos hx]
theorem GZ (h : s = 16) (hl : l = []) (hx : ¬ 8 * B.length < a + oz s) : rep B s l a = .error 4 := by unfold rep; rw [if_neg (by omega), if_neg hx, if_pos ⟨h, hl⟩]
theorem xy (h : ¬ s < 16) (hx : ¬ 8 * B.length < a + oz s) (hl : ¬ (s = 16 ∧ l = [])) : rep B s l a = .ok (L0 s l, zf s + aJ B a (oz s), a + oz s) := by unfold rep; rw [if_neg h, if_neg hx, if_neg hl]
end
theorem zT (B : List Int) (a : Nat) : ∀ k, (gK B a k).length = 19
  | 0 => by simp [gK]
  | k + 1 => by simp [gK, zT B a k]
theorem zI : bb fb = 0 := by decide +kernel
theorem zn : bb kq = 0 := by decide +kernel
def gZ : List (Int × Int) := [(8, 144), (9, 112), (7, 24), (8, 8)]
def gM : Nat → List Int
  | 0 => []
  | k + 1 => gM k ++ List.replicate (gZ.getD k (0, 0)).2.toNat (gZ.getD k (0, 0)).1
theorem Eg : gM 4 = fb := by decide +kernel
theorem Jr : ∀ k, k ≤ 4 → (gM k).length ≤ 288 := by
  intro k hk
  have : k = 0 ∨ k = 1 ∨ k = 2 ∨ k = 3 ∨ k = 4 := by omega
  rcases this with rfl | rfl | rfl | rfl | rfl <;> decide +kernel
theorem KI {k : Nat} (h : k < 19) : 0 ≤ lq.getD k 0 ∧ lq.getD k 0 < 19 := by
  have : ∀ k, k < 19 → 0 ≤ lq.getD k 0 ∧ lq.getD k 0 < 19 := by decide
  exact this k h
theorem Fa (B : List Int) (a : Nat) : 257 + aJ B a 5 = (hL B a : Int) ∧ 1 + aJ B (a + 5) 5 = (hD B a : Int) ∧ 4 + aJ B (a + 10) 4 = (hC B a : Int) ∧ hL B a ≤ 288 ∧ hD B a ≤ 32 ∧ hC B a ≤ 19 ∧ 4 ≤ hC B a ∧ 257 ≤ hL B a := by
  have h1 := bF B a 5
  have h2 := bF B (a + 5) 5
  have h3 := bF B (a + 10) 4
  unfold hL hD hC
  omega
end Go.ab
namespace Go.ab
open Go.af Go.ae
theorem fF {α : Type} (E : Except Int α) : (∃ e, E = .error e) ∨ ∃ x, E = .ok x := by
  cases E with
  | error e => exact .inl ⟨e, rfl⟩
  | ok x => exact .inr ⟨x, rfl⟩
theorem rU {ls B : List Int} {a : Nat} : ∀ {r n n' : Nat} {s : Int}, lk ls B a r n = .vw n' s → n < n' ∧ a + n' ≤ 8 * B.length ∧ (s ∈ ord ls ∨ s = 0) := by
  intro r
  induction r with
  | zero => intro n n' s h; simp [lk] at h
  | succ r ih =>
    intro n n' s h
    simp only [lk] at h
    split at h
    · rename_i h1
      split at h
      · cases h
        refine ⟨by omega, by omega, ?_⟩
        rw [List.getD_eq_getElem?_getD]
        cases hh : (ord ls)[off ls (n + 1) + (acc B a (n + 1) - base ls (n + 1)).toNat]? with
        | none => exact .inr rfl
        | some x => exact .inl (List.mem_of_getElem? hh)
      · have := ih h; exact ⟨by omega, this.2.1, this.2.2⟩
    · cases h
theorem pQ {ls B : List Int} {a a' : Nat} {s : Int} (hE : bb ls = 0) (h0 : 0 < ls.length) (h : sym ls B a = .ok (s, a')) : 0 ≤ s ∧ s < ls.length ∧ a < a' ∧ a' ≤ 8 * B.length := by
  unfold sym at h
  split at h
  · rename_i n s' hs
    cases h
    obtain ⟨h1, h2, h3⟩ := rU hs
    have : 0 ≤ s ∧ s < ls.length := by
      rcases h3 with h3 | rfl
      · obtain ⟨k1, k2, _⟩ := (uN (kP hE).1).1 h3
        omega
      · omega
    omega
  · cases h
  · cases h
theorem wW {B l : List Int} {s x n : Int} {a a' : Nat} (ha : a ≤ 8 * B.length) (h : rep B s l a = .ok (x, n, a')) : 1 ≤ n ∧ n < 200 ∧ a ≤ a' ∧ a' ≤ 8 * B.length := by
  unfold rep at h
  split at h
  · cases h; omega
  split at h
  · cases h
  split at h
  · cases h
  cases h
  have hb := bF B a (oz s)
  have : zf s + aJ B a (oz s) < 200 ∧ 1 ≤ zf s := by
    unfold zf
    unfold oz at hb ⊢
    by_cases h1 : s = 16
    · rw [if_pos h1] at hb ⊢; rw [if_neg (by omega)]; omega
    · by_cases h2 : s = 17
      · rw [if_neg h1, if_pos h2] at hb ⊢; rw [if_neg (by omega)]; omega
      · rw [if_neg h1, if_neg h2] at hb ⊢; split <;> omega
  omega
section
variable {B c l l' : List Int} {tot f a a' : Nat} {e s x n : Int}
theorem lS (h : tot ≤ l.length) : eG B c tot f l a = .ok (l, a) := by
  cases f with
  | zero => rfl
  | succ f => simp only [eG]; rw [if_neg (by omega)]
theorem om (h : l.length < tot) (hf : tot ≤ f + l.length) (k : jP B c l a = .error e) : eG B c tot f l a = .error e := by
  obtain ⟨f, rfl⟩ : ∃ g, f = g + 1 := ⟨f - 1, by omega⟩
  simp only [eG]; rw [if_pos h, k]
theorem u0 (h : l.length < tot) (hf : tot ≤ f + l.length) (k : jP B c l a = .ok (l', a')) (hl : l'.length ≤ tot) : eG B c tot f l a = eG B c tot (f - 1) l' a' := by
  obtain ⟨f, rfl⟩ : ∃ g, f = g + 1 := ⟨f - 1, by omega⟩
  simp only [eG]; rw [if_pos h, k]; simp only; rw [if_pos hl]; rfl
theorem wH (h : l.length < tot) (hf : tot ≤ f + l.length) (k : jP B c l a = .ok (l', a')) (hl : ¬ l'.length ≤ tot) : eG B c tot f l a = .error 4 := by
  obtain ⟨f, rfl⟩ : ∃ g, f = g + 1 := ⟨f - 1, by omega⟩
  simp only [eG]; rw [if_pos h, k]; simp only; rw [if_neg hl]
theorem se (h : sym c B a = .error e) : jP B c l a = .error e := by unfold jP; rw [h]
theorem rv (h : sym c B a = .ok (s, a')) (k : rep B s l a' = .error e) : jP B c l a = .error e := by unfold jP; rw [h]; simp only; rw [k]
theorem lO {a'' : Nat} (h : sym c B a = .ok (s, a')) (k : rep B s l a' = .ok (x, n, a'')) : jP B c l a = .ok (l ++ List.replicate n.toNat x, a'') := by unfold jP; rw [h]; simp only; rw [k]
end
theorem BR (B c l : List Int) (a : Nat) : (∃ e, sym c B a = .error e) ∨ (∃ s a' e, sym c B a = .ok (s, a') ∧ rep B s l a' = .error e) ∨ (∃ s a' x n a'', sym c B a = .ok (s, a') ∧ rep B s l a' = .ok (x, n, a'')) := by
  rcases fF (sym c B a) with ⟨e, h⟩ | ⟨⟨s, a'⟩, h⟩
  · exact .inl ⟨e, h⟩
  · rcases fF (rep B s l a') with ⟨e, k⟩ | ⟨⟨x, n, a''⟩, k⟩
    · exact .inr (.inl ⟨s, a', e, h, k⟩)
    · exact .inr (.inr ⟨s, a', x, n, a'', h, k⟩)
def bU (B : List Int) (a : Nat) : List Int := gK B (a + 14) (hC B a)
def cC (B : List Int) (a : Nat) : Nat := hL B a + hD B a
def dp (B : List Int) (a : Nat) : Nat := a + 14 + 3 * hC B a
section
variable {B l : List Int} {a a' : Nat} {e : Int}
theorem tx (h : 8 * B.length < a + 14) : told B a = .error 2 := if_pos h
theorem yf (h : a + 14 ≤ 8 * B.length) (k : ¬ (hL B a ≤ 286 ∧ hD B a ≤ 30)) : told B a = .error 4 := by
  unfold told; rw [if_neg (by omega), if_pos k]
theorem DC (h : a + 14 ≤ 8 * B.length) (k : hL B a ≤ 286 ∧ hD B a ≤ 30) (x : 8 * B.length < dp B a) : told B a = .error 2 := by
  unfold told; rw [if_neg (by omega), if_neg (fun h => h k)]; exact if_pos x
theorem CM (h : a + 14 ≤ 8 * B.length) (k : hL B a ≤ 286 ∧ hD B a ≤ 30) (x : dp B a ≤ 8 * B.length) (y : bb (bU B a) ≠ 0) : told B a = .error 4 := by
  unfold told; rw [if_neg (by omega), if_neg (fun h => h k), if_neg (by unfold dp at x; omega)]; exact if_pos y
theorem uP (h : a + 14 ≤ 8 * B.length) (k : hL B a ≤ 286 ∧ hD B a ≤ 30) (x : dp B a ≤ 8 * B.length) (y : bb (bU B a) = 0) : told B a = (match eG B (bU B a) (cC B a) (cC B a) [] (dp B a) with
    | .error e => .error e
    | .ok (l, a') => if bb (l.take (hL B a)) ≠ 0 ∨ bb (l.drop (hL B a)) ≠ 0 ∨ l.getD 256 0 = 0 then .error 4 else .ok (a', l.take (hL B a), l.drop (hL B a))) := by
  unfold told; rw [if_neg (by omega), if_neg (fun h => h k), if_neg (by unfold dp at x; omega)]; exact if_neg (fun h => h y)
theorem sj (h : a + 14 ≤ 8 * B.length) (k : hL B a ≤ 286 ∧ hD B a ≤ 30) (x : dp B a ≤ 8 * B.length) (y : bb (bU B a) = 0) (z : eG B (bU B a) (cC B a) (cC B a) [] (dp B a) = .error e) : told B a = .error e := by
  rw [uP h k x y, z]
theorem tw (h : a + 14 ≤ 8 * B.length) (k : hL B a ≤ 286 ∧ hD B a ≤ 30) (x : dp B a ≤ 8 * B.length) (y : bb (bU B a) = 0) (z : eG B (bU B a) (cC B a) (cC B a) [] (dp B a) = .ok (l, a')) (q : bb (l.take (hL B a)) ≠ 0 ∨ bb (l.drop (hL B a)) ≠ 0 ∨ l.getD 256 0 = 0) : told B a = .error 4 := by
  rw [uP h k x y, z]; exact if_pos q
theorem E5 (h : a + 14 ≤ 8 * B.length) (k : hL B a ≤ 286 ∧ hD B a ≤ 30) (x : dp B a ≤ 8 * B.length) (y : bb (bU B a) = 0) (z : eG B (bU B a) (cC B a) (cC B a) [] (dp B a) = .ok (l, a')) (q1 : bb (l.take (hL B a)) = 0) (q2 : bb (l.drop (hL B a)) = 0) (q3 : l.getD 256 0 ≠ 0) : told B a = .ok (a', l.take (hL B a), l.drop (hL B a)) := by
  rw [uP h k x y, z]; exact if_neg (fun h => by rcases h with h | h | h; exact h q1; exact h q2; exact q3 h)
end
theorem gV (B : List Int) (a : Nat) : (bU B a).length = 19 := zT _ _ _
theorem Kh {k : Nat} (h : k < 4) : (gZ.getD k (0, 0)).2 = ((gZ.getD k (0, 0)).2.toNat : Int) ∧ (gZ.getD k (0, 0)).2.toNat < 200 := by
  have : ∀ k, k < 4 → (gZ.getD k (0, 0)).2 = ((gZ.getD k (0, 0)).2.toNat : Int) ∧ (gZ.getD k (0, 0)).2.toNat < 200 := by decide
  exact this k h
theorem Aw {ls : List Int} (hE : bb ls = 0) (i : Nat) : 0 ≤ ls.getD i 0 := by
  have hV := (kP hE).1
  rw [List.getD_eq_getElem?_getD]
  cases h : ls[i]? with
  | none => exact Int.le_refl _
  | some x => exact (hV.2 x (List.mem_of_getElem? h)).1
theorem getD_take {l : List Int} {n i : Nat} (h : i < n) : (l.take n).getD i 0 = l.getD i 0 := by
  simp [List.getD_eq_getElem?_getD, List.getElem?_take, h]
end Go.ab
namespace Go.ab
open Go.af
theorem EB (k : Nat) : gM (k + 1) = gM k ++ List.replicate (gZ.getD k (0, 0)).2.toNat (gZ.getD k (0, 0)).1 := rfl
theorem Md {k : Nat} (h : k < 4) : 0 ≤ (gZ.getD k (0, 0)).2 ∧ (gZ.getD k (0, 0)).2 < 200 := by have := Kh h; omega
theorem G7 (B : List Int) (a : Nat) : gK B a 0 = List.replicate 19 0 := rfl
theorem F7 (B : List Int) (a k : Nat) : gK B a (k + 1) = (gK B a k).set (lq.getD k 0).toNat (aJ B (a + 3 * k) 3) := rfl
theorem S3 (n a : Nat) : 8 * n < a + 5 ∨ (a + 5 ≤ 8 * n ∧ 8 * n < a + 10) ∨ (a + 10 ≤ 8 * n ∧ 8 * n < a + 14) ∨ a + 14 ≤ 8 * n := by omega
theorem UO (p q : Prop) : (p ∧ q) ∨ (p ∧ ¬ q) ∨ ¬ p := by
  rcases Classical.em p with h | h
  · rcases Classical.em q with k | k
    · exact .inl ⟨h, k⟩
    · exact .inr (.inl ⟨h, k⟩)
  · exact .inr (.inr h)
theorem wy (B : List Int) (a : Nat) : cC B a = hL B a + hD B a := rfl
theorem xt (B : List Int) (a : Nat) : dp B a = a + 14 + 3 * hC B a := rfl
theorem xP (B : List Int) (a : Nat) : bU B a = gK B (a + 14) (hC B a) := rfl
end Go.ab
namespace Go.ab
end Go.ab
namespace Go.ab
open Go.af Go.ae
def eo (B : List Int) (s : Int) (a : Nat) : Except Int (Int × Nat) := if 29 ≤ s then .error 4 else if 8 * B.length < a + mr s then .error 2 else .ok (pO s + aJ B a (mr s), a + mr s)
def dw (B ds : List Int) (a : Nat) : Except Int (Int × Nat) := match sym ds B a with
  | .error e => .error e
  | .ok (d, a3) => if 30 ≤ d then .error 4 else if 8 * B.length < a3 + mE d then .error 2 else .ok (sV d + aJ B a3 (mE d), a3 + mE d)
theorem o1 (B : List Int) (a : Nat) : aJ B a 0 = 0 := rfl
section
variable {B : List Int} {s : Int} {a : Nat}
theorem CC (h : 29 ≤ s) : eo B s a = .error 4 := if_pos h
def fD (s : Int) : Nat := (s / 4 - 1).toNat
def fU (s : Int) : Nat := (s / 2 - 1).toNat
theorem zJ (h : s < 8 ∨ s = 28) : mr s = 0 := if_pos h
theorem I6 (h : 8 ≤ s) (h2 : s < 28) : mr s = fD s := if_neg (by omega)
theorem Lq (h : s < 8) : pO s = 3 + s := if_pos h
theorem Js (h : s = 28) : pO s = 258 := by unfold pO; rw [if_neg (by omega)]; exact if_pos h
theorem Ua (h : 8 ≤ s) (h2 : s < 28) : pO s = 3 + (4 + s % 4) * 2 ^ fD s := by unfold pO; rw [if_neg (by omega), if_neg (by omega)]; rfl
theorem JL (h : s < 4) : mE s = 0 := if_pos h
theorem IE (h : 4 ≤ s) : mE s = fU s := if_neg (by omega)
theorem Kk (h : s < 4) : sV s = 1 + s := if_pos h
theorem SY (h : 4 ≤ s) : sV s = 1 + (2 + s % 2) * 2 ^ fU s := if_neg (by omega)
theorem Af (h0 : 0 ≤ s) (h : s < 8) (ha : a ≤ 8 * B.length) : eo B s a = .ok (3 + s, a) := by
  unfold eo
  rw [if_neg (by omega), zJ (.inl h), Lq h, o1, Int.add_zero]; exact if_neg (by omega)
theorem Au (h : s = 28) (ha : a ≤ 8 * B.length) : eo B s a = .ok (258, a) := by
  unfold eo
  rw [if_neg (by omega), zJ (.inr h), Js h, o1, Int.add_zero]; exact if_neg (by omega)
theorem vu (h : 8 ≤ s) (h2 : s < 28) (hx : 8 * B.length < a + fD s) : eo B s a = .error 2 := by
  unfold eo
  rw [if_neg (by omega), I6 h h2]; exact if_pos hx
theorem Dr (h : 8 ≤ s) (h2 : s < 28) (hx : a + fD s ≤ 8 * B.length) : eo B s a = .ok (3 + (4 + s % 4) * 2 ^ fD s + aJ B a (fD s), a + fD s) := by
  unfold eo
  rw [if_neg (by omega), I6 h h2, Ua h h2]; exact if_neg (by omega)
theorem yo (h : 8 ≤ s) (h2 : s < 28) : s / 4 - 1 = (fD s : Int) ∧ fD s ≤ 5 ∧ 1 ≤ fD s := by unfold fD; omega
theorem wQ (h : 4 ≤ s) (h2 : s < 30) : s / 2 - 1 = (fU s : Int) ∧ fU s ≤ 13 ∧ 1 ≤ fU s := by unfold fU; omega
end
section
variable {B ds : List Int} {s e : Int} {a a3 : Nat}
theorem CZ (h : sym ds B a = .error e) : dw B ds a = .error e := by unfold dw; rw [h]
theorem zH (h : sym ds B a = .ok (s, a3)) (k : 30 ≤ s) : dw B ds a = .error 4 := by unfold dw; rw [h]; exact if_pos k
theorem yw (h : sym ds B a = .ok (s, a3)) (h0 : 0 ≤ s) (k : s < 4) (ha : a3 ≤ 8 * B.length) : dw B ds a = .ok (1 + s, a3) := by
  unfold dw; rw [h]; simp only; rw [if_neg (by omega), JL k, Kk k, o1, Int.add_zero]; exact if_neg (by omega)
theorem sQ (h : sym ds B a = .ok (s, a3)) (h1 : 4 ≤ s) (h2 : s < 30) (hx : 8 * B.length < a3 + fU s) : dw B ds a = .error 2 := by
  unfold dw; rw [h]; simp only; rw [if_neg (by omega), IE h1]; exact if_pos hx
theorem zg (h : sym ds B a = .ok (s, a3)) (h1 : 4 ≤ s) (h2 : s < 30) (hx : a3 + fU s ≤ 8 * B.length) : dw B ds a = .ok (1 + (2 + s % 2) * 2 ^ fU s + aJ B a3 (fU s), a3 + fU s) := by
  unfold dw; rw [h]; simp only; rw [if_neg (by omega), IE h1, SY h1]; exact if_neg (by omega)
end
theorem k6 {x : Int} {n : Nat} (h0 : 0 ≤ x) (h1 : x < 8) (hn : n ≤ 13) {d : Int} (hd : d = (n : Int)) : IntKind.i64.wrap (x * 2 ^ (min d.toNat IntKind.i64.bits)) = x * 2 ^ n ∧ 0 ≤ x * 2 ^ n ∧ x * 2 ^ n < 65536 := by
  have e : min d.toNat IntKind.i64.bits = n := by
    have : IntKind.i64.bits = 64 := rfl
    omega
  have hp : (2 : Int) ^ n ≤ 2 ^ 13 := by
    have := Nat.pow_le_pow_right (n := 2) (by decide) hn
    have e2 : ((2 : Int) ^ n) = ((2 ^ n : Nat) : Int) := by simp
    rw [e2]; exact_mod_cast this
  have h2 : (0 : Int) < 2 ^ n := Int.pow_pos (by decide)
  have h3 : 0 ≤ x * 2 ^ n := Int.mul_nonneg h0 (Int.le_of_lt h2)
  have h4 : x * 2 ^ n ≤ 7 * 2 ^ 13 := Int.le_trans (Int.mul_le_mul_of_nonneg_right (show x ≤ 7 by omega) (Int.le_of_lt h2)) (Int.mul_le_mul_of_nonneg_left hp (by decide))
  rw [e]
  exact ⟨Sl.fi (by omega) (by omega), h3, by omega⟩
theorem HY {x y : Int} (hx : 0 ≤ x ∧ x < 65536) (hy : 0 ≤ y ∧ y < 65536) : (IntKind.i64.wrap ((BitVec.ofInt IntKind.i64.bits x ^^^ BitVec.ofInt IntKind.i64.bits y).toNat : Int) = 65535) ↔ x = 65535 - y := by
  obtain ⟨a, rfl⟩ : ∃ a : Nat, x = (a : Int) := ⟨x.toNat, by omega⟩
  obtain ⟨b, rfl⟩ : ∃ b : Nat, y = (b : Int) := ⟨y.toNat, by omega⟩
  have e : IntKind.i64.bits = 64 := rfl
  have ha : a < 2 ^ 16 := by omega
  have hb : b < 2 ^ 16 := by omega
  have hlt : a ^^^ b < 2 ^ 16 := Nat.xor_lt_two_pow ha hb
  rw [e, BitVec.toNat_xor, cy, cy, Nat.mod_eq_of_lt (by omega), Nat.mod_eq_of_lt (by omega), Sl.fi (by omega) (by omega)]
  have hc : b ^^^ 65535 = 65535 - b := by
    have h1 : (BitVec.ofNat 16 b ^^^ BitVec.allOnes 16) = ~~~ (BitVec.ofNat 16 b) := BitVec.xor_allOnes
    have h2 := congrArg BitVec.toNat h1
    rw [BitVec.toNat_xor, BitVec.toNat_not, BitVec.toNat_ofNat, BitVec.toNat_allOnes, Nat.mod_eq_of_lt hb] at h2
    exact h2
  constructor
  · intro h
    have h' : a ^^^ b = 65535 := by omega
    have : a = 65535 ^^^ b := by rw [← h', Nat.xor_assoc, Nat.xor_self, Nat.xor_zero]
    rw [Nat.xor_comm, hc] at this
    omega
  · intro h
    have h' : a = 65535 - b := by omega
    rw [h', ← hc, Nat.xor_comm b, Nat.xor_assoc, Nat.xor_self, Nat.xor_zero]
    rfl
section
variable {B : List Int} {s : St} {e : Int}
theorem BT (h : 8 * B.length < s.at_ + 3) : cM B s = .error 2 := if_pos h
theorem xv (h : s.at_ + 3 ≤ 8 * B.length) (k : aJ B (s.at_ + 1) 2 = 0) (hx : 8 * B.length < cS (s.at_ + 3) + 32) : cM B s = .error 2 := by
  unfold cM; rw [if_neg (by omega), if_pos k]; exact if_pos hx
theorem DA (h : s.at_ + 3 ≤ 8 * B.length) (k : aJ B (s.at_ + 1) 2 = 0) (hx : cS (s.at_ + 3) + 32 ≤ 8 * B.length) (hm : aJ B (cS (s.at_ + 3)) 16 ≠ 65535 - aJ B (cS (s.at_ + 3) + 16) 16) : cM B s = .error 4 := by
  unfold cM; rw [if_neg (by omega), if_pos k, if_neg (by omega)]; exact if_neg hm
theorem yE (h : s.at_ + 3 ≤ 8 * B.length) (k : aJ B (s.at_ + 1) 2 = 0) (hx : cS (s.at_ + 3) + 32 ≤ 8 * B.length) (hm : aJ B (cS (s.at_ + 3)) 16 = 65535 - aJ B (cS (s.at_ + 3) + 16) 16) : cM B s = .ok { s with at_ := cS (s.at_ + 3) + 32, kind := 0, left := (aJ B (cS (s.at_ + 3)) 16).toNat, last := decide (aJ B s.at_ 1 = 1) } := by
  unfold cM; rw [if_neg (by omega), if_pos k, if_neg (by omega)]; exact if_pos hm
theorem Jb (h : s.at_ + 3 ≤ 8 * B.length) (k : aJ B (s.at_ + 1) 2 = 1) : cM B s = .ok { s with at_ := s.at_ + 3, kind := 1, last := decide (aJ B s.at_ 1 = 1), lits := fb, dH := kq } := by
  unfold cM; rw [if_neg (by omega), if_neg (by omega)]; exact if_pos k
theorem EM (h : s.at_ + 3 ≤ 8 * B.length) (k : aJ B (s.at_ + 1) 2 = 2) (t : told B (s.at_ + 3) = .error e) : cM B s = .error e := by
  unfold cM; rw [if_neg (by omega), if_neg (by omega), if_neg (by omega), if_pos k, t]
theorem CV {a : Nat} {l d : List Int} (h : s.at_ + 3 ≤ 8 * B.length) (k : aJ B (s.at_ + 1) 2 = 2) (t : told B (s.at_ + 3) = .ok (a, l, d)) : cM B s = .ok { s with at_ := a, kind := 2, last := decide (aJ B s.at_ 1 = 1), lits := l, dH := d } := by
  unfold cM; rw [if_neg (by omega), if_neg (by omega), if_neg (by omega), if_pos k, t]
theorem Ds (h : s.at_ + 3 ≤ 8 * B.length) (k : aJ B (s.at_ + 1) 2 ≠ 0) (k1 : aJ B (s.at_ + 1) 2 ≠ 1) (k2 : aJ B (s.at_ + 1) 2 ≠ 2) : cM B s = .error 4 := by
  unfold cM; rw [if_neg (by omega), if_neg k, if_neg k1]; exact if_neg k2
end
section
variable {B : List Int} {bV : Int} {s : St} {y n f e : Int} {a a2 a3 : Nat}
theorem vX (h : sym s.lits B s.at_ = .error e) : dT B bV s = .error e := by unfold dT; rw [h]
theorem m0 (h : sym s.lits B s.at_ = .ok (y, a)) (k : y < 256) : dT B bV s = dP bV { s with at_ := a } y := by unfold dT; rw [h]; exact if_pos k
theorem qw (h : sym s.lits B s.at_ = .ok (y, a)) (k : y = 256) : dT B bV s = .ok { s with at_ := a, kind := -1, ended := s.last } := by unfold dT; rw [h]; simp only; rw [if_neg (by omega)]; exact if_pos k
theorem sO (h : sym s.lits B s.at_ = .ok (y, a)) (k : 256 < y) : dT B bV s = (match eo B (y - 257) a with
    | .error e => .error e
    | .ok (n, a2) => match dw B s.dH a2 with
      | .error e => .error e
      | .ok (f, a3) => if f ≤ s.out.length then .ok { s with at_ := a3, aw := n.toNat, bA := f.toNat } else .error 4) := by
  unfold dT eo; rw [h]; simp only
  rw [if_neg (by omega), if_neg (by omega)]
  by_cases h1 : 286 ≤ y
  · rw [if_pos h1, if_pos (show 29 ≤ y - 257 by omega)]
  · rw [if_neg h1, if_neg (show ¬ 29 ≤ y - 257 by omega)]
    by_cases h2 : 8 * B.length < a + mr (y - 257)
    · rw [if_pos h2, if_pos h2]
    · rw [if_neg h2, if_neg h2]
      unfold dw
      simp only
      cases hs : sym s.dH B (a + mr (y - 257)) with
      | error e => rfl
      | ok q =>
        obtain ⟨d, a3⟩ := q
        simp only
        by_cases h3 : 30 ≤ d
        · rw [if_pos h3, if_pos h3]
        · rw [if_neg h3, if_neg h3]
          by_cases h4 : 8 * B.length < a3 + mE d
          · rw [if_pos h4, if_pos h4]
          · rw [if_neg h4, if_neg h4]
theorem vY (h : sym s.lits B s.at_ = .ok (y, a)) (k : 256 < y) (l : eo B (y - 257) a = .error e) : dT B bV s = .error e := by rw [sO h k, l]
theorem vJ (h : sym s.lits B s.at_ = .ok (y, a)) (k : 256 < y) (l : eo B (y - 257) a = .ok (n, a2)) (w : dw B s.dH a2 = .error e) : dT B bV s = .error e := by rw [sO h k, l]; simp only; rw [w]
theorem vI (h : sym s.lits B s.at_ = .ok (y, a)) (k : 256 < y) (l : eo B (y - 257) a = .ok (n, a2)) (w : dw B s.dH a2 = .ok (f, a3)) (q : ¬ f ≤ s.out.length) : dT B bV s = .error 4 := by rw [sO h k, l]; simp only; rw [w]; exact if_neg q
theorem wa (h : sym s.lits B s.at_ = .ok (y, a)) (k : 256 < y) (l : eo B (y - 257) a = .ok (n, a2)) (w : dw B s.dH a2 = .ok (f, a3)) (q : f ≤ s.out.length) : dT B bV s = .ok { s with at_ := a3, aw := n.toNat, bA := f.toNat } := by rw [sO h k, l]; simp only; rw [w]; exact if_pos q
end
theorem Dx {B : List Int} {s n : Int} {a a2 : Nat} (h0 : 0 ≤ s) (ha : a ≤ 8 * B.length) (h : eo B s a = .ok (n, a2)) : 3 ≤ n ∧ n < 400 ∧ a ≤ a2 ∧ a2 ≤ 8 * B.length := by
  by_cases h1 : s < 8
  · rw [Af h0 h1 ha] at h; cases h; omega
  by_cases h2 : 29 ≤ s
  · rw [CC h2] at h; cases h
  by_cases h3 : s = 28
  · rw [Au h3 ha] at h; cases h; omega
  by_cases h4 : a + fD s ≤ 8 * B.length
  · rw [Dr (by omega) (by omega) h4] at h; cases h
    obtain ⟨k1, k2, k3⟩ := yo (s := s) (by omega) (by omega)
    have hb := bF B a (fD s)
    have : fD s = 1 ∨ fD s = 2 ∨ fD s = 3 ∨ fD s = 4 ∨ fD s = 5 := by omega
    rcases this with e | e | e | e | e <;> rw [e] at hb ⊢ <;> omega
  · rw [vu (by omega) (by omega) (by omega)] at h; cases h
theorem BB {B ds : List Int} {n : Int} {a a3 : Nat} (hE : bb ds = 0) (hd : 0 < ds.length) (h : dw B ds a = .ok (n, a3)) : 1 ≤ n ∧ n < 100000 ∧ a ≤ a3 ∧ a3 ≤ 8 * B.length := by
  cases hs : sym ds B a with
  | error e => rw [CZ hs] at h; cases h
  | ok q =>
    obtain ⟨s, b⟩ := q
    have hg := pQ hE hd hs
    by_cases h2 : 30 ≤ s
    · rw [zH hs h2] at h; cases h
    by_cases h1 : s < 4
    · rw [yw hs hg.1 h1 hg.2.2.2] at h; cases h; omega
    by_cases h4 : b + fU s ≤ 8 * B.length
    · rw [zg hs (by omega) (by omega) h4] at h; cases h
      obtain ⟨k1, k2, k3⟩ := wQ (s := s) (by omega) (by omega)
      have hb := bF B b (fU s)
      obtain ⟨_, m1, m2⟩ := k6 (x := 2 + s % 2) (n := fU s) (by omega) (by omega) (by omega) rfl
      have hp : (2 : Int) ^ fU s ≤ 2 ^ 13 := by
        have := Nat.pow_le_pow_right (n := 2) (by decide) k2
        have e2 : ((2 : Int) ^ fU s) = ((2 ^ fU s : Nat) : Int) := by simp
        rw [e2]; exact_mod_cast this
      omega
    · rw [sQ hs (by omega) (by omega) (by omega)] at h; cases h
end Go.ab
namespace Go.ab
open Go.af Go.ae
theorem Cy {B : List Int} {s : Int} {a : Nat} (h0 : 0 ≤ s) (ha : a ≤ 8 * B.length) : (∃ e, eo B s a = .error e) ∨ ∃ n a2 : Nat, eo B s a = .ok ((n : Int), a2) ∧ 3 ≤ n ∧ n < 400 ∧ a ≤ a2 ∧ a2 ≤ 8 * B.length := by
  rcases fF (eo B s a) with h | ⟨⟨n, a2⟩, h⟩
  · exact .inl h
  · have hg := Dx h0 ha h
    refine .inr ⟨n.toNat, a2, ?_, by omega, by omega, hg.2.2.1, hg.2.2.2⟩
    rw [h, Int.toNat_of_nonneg (by omega)]
theorem Ae {B ds : List Int} {a : Nat} (hE : bb ds = 0) (hd : 0 < ds.length) : (∃ e, dw B ds a = .error e) ∨ ∃ f a2 : Nat, dw B ds a = .ok ((f : Int), a2) ∧ 1 ≤ f ∧ f < 100000 ∧ a ≤ a2 ∧ a2 ≤ 8 * B.length := by
  rcases fF (dw B ds a) with h | ⟨⟨n, a2⟩, h⟩
  · exact .inl h
  · have hg := BB hE hd h
    refine .inr ⟨n.toNat, a2, ?_, by omega, by omega, hg.2.2.1, hg.2.2.2⟩
    rw [h, Int.toNat_of_nonneg (by omega)]
theorem yc {B ls : List Int} {a : Nat} (hE : bb ls = 0) (hd : 0 < ls.length) : (∃ e, sym ls B a = .error e) ∨ ∃ (y : Int) (a2 : Nat), sym ls B a = .ok (y, a2) ∧ 0 ≤ y ∧ y < ls.length ∧ a < a2 ∧ a2 ≤ 8 * B.length := by
  rcases fF (sym ls B a) with h | ⟨⟨y, a2⟩, h⟩
  · exact .inl h
  · exact .inr ⟨y, a2, h, pQ hE hd h⟩
structure Ok (B : List Int) (mo : Int) (s : St) : Prop where
  at_ : s.at_ ≤ 8 * B.length
  room : (s.out.length : Int) ≤ mo
  o8 : an s.out
  kind : s.kind = -1 ∨ s.kind = 0 ∨ s.kind = 1 ∨ s.kind = 2
  left : s.left < 65536
  Iu : 0 < s.kind → bb s.lits = 0 ∧ bb s.dH = 0 ∧ 0 < s.lits.length ∧ 0 < s.dH.length
  aw : s.aw < 400
  bA : 0 < s.aw → 1 ≤ s.bA ∧ s.bA ≤ s.out.length
theorem Ck {B l d : List Int} {a a' : Nat} (h : told B a = .ok (a', l, d)) : bb l = 0 ∧ bb d = 0 ∧ 0 < l.length ∧ 0 < d.length ∧ a < a' ∧ a' ≤ 8 * B.length := by
  by_cases h1 : 8 * B.length < a + 14
  · rw [tx h1] at h; cases h
  by_cases h2' : ¬ (hL B a ≤ 286 ∧ hD B a ≤ 30)
  · rw [yf (by omega) h2'] at h; cases h
  have h2 := Classical.not_not.1 h2'
  by_cases h3 : 8 * B.length < dp B a
  · rw [DC (by omega) h2 h3] at h; cases h
  by_cases h4' : bb (bU B a) ≠ 0
  · rw [CM (by omega) h2 (by omega) h4'] at h; cases h
  have h4 := Classical.not_not.1 h4'
  cases h5 : eG B (bU B a) (cC B a) (cC B a) [] (dp B a) with
  | error e => rw [sj (by omega) h2 (by omega) h4 h5] at h; cases h
  | ok q =>
    obtain ⟨ls, a2⟩ := q
    by_cases h6 : bb (ls.take (hL B a)) ≠ 0 ∨ bb (ls.drop (hL B a)) ≠ 0 ∨ ls.getD 256 0 = 0
    · rw [tw (by omega) h2 (by omega) h4 h5 h6] at h; cases h
    · have h7 : bb (ls.take (hL B a)) = 0 := by
        rcases Classical.em (bb (ls.take (hL B a)) = 0) with k | k
        · exact k
        · exact (h6 (.inl k)).elim
      have h8 : bb (ls.drop (hL B a)) = 0 := by
        rcases Classical.em (bb (ls.drop (hL B a)) = 0) with k | k
        · exact k
        · exact (h6 (.inr (.inl k))).elim
      have h9 : ls.getD 256 0 ≠ 0 := fun k => h6 (.inr (.inr k))
      rw [E5 (by omega) h2 (by omega) h4 h5 h7 h8 h9] at h
      cases h
      have key : ∀ (f : Nat) (l : List Int) (x : Nat), cC B a ≤ f + l.length → l.length ≤ cC B a → x ≤ 8 * B.length → eG B (bU B a) (cC B a) f l x = .ok (ls, a') → ls.length = cC B a ∧ x ≤ a' ∧ a' ≤ 8 * B.length := by
        intro f
        induction f with
        | zero => intro l x k1 k2 k3 k4; rw [lS (by omega)] at k4; cases k4; exact ⟨by omega, Nat.le_refl _, k3⟩
        | succ f ih =>
          intro l x k1 k2 k3 k4
          by_cases hl : cC B a ≤ l.length
          · rw [lS hl] at k4; cases k4; exact ⟨by omega, Nat.le_refl _, k3⟩
          · rcases BR B (bU B a) l x with ⟨e, hs⟩ | ⟨sy, x2, e, hs, hr⟩ | ⟨sy, x2, v, n, x3, hs, hr⟩
            · rw [om (by omega) k1 (se hs)] at k4; cases k4
            · rw [om (by omega) k1 (rv hs hr)] at k4; cases k4
            · have hsg := pQ h4 (by rw [gV]; omega) hs
              have hrg := wW hsg.2.2.2 hr
              by_cases hb : (l ++ List.replicate n.toNat v).length ≤ cC B a
              · rw [u0 (by omega) k1 (lO hs hr) hb] at k4
                have := ih _ _ (by rw [List.length_append, List.length_replicate]; omega) hb hrg.2.2.2 k4
                exact ⟨this.1, by omega, this.2.2⟩
              · rw [wH (by omega) k1 (lO hs hr) hb] at k4; cases k4
      have hA := xt B a
      have := key _ [] _ (Nat.le_add_right _ _) (Nat.zero_le _) (show dp B a ≤ 8 * B.length by omega) h5
      have hN := wy B a
      have hd := Fa B a
      have hn2 := bF B (a + 5) 5
      refine ⟨h7, h8, ?_, ?_, by omega, this.2.2⟩
      · rw [List.length_take]; omega
      · rw [List.length_drop]
        have : 1 ≤ hD B a := by omega
        omega
end Go.ab
namespace Go.ab
open Go.af Go.ae
theorem x9 {ls : List Int} (h : bb ls = 0) : ls.length ≤ 320 := (kP h).1.1
theorem xU (a : Nat) : cS a = (a + 7) / 8 * 8 := rfl
theorem Um (n a : Nat) : 8 * n < a + 16 ∨ (a + 16 ≤ 8 * n ∧ 8 * n < a + 32) ∨ a + 32 ≤ 8 * n := by omega
end Go.ab
namespace Go.ab
open Go.af Go.ae
section
variable {B : List Int} {mo y e : Int} {s s2 : St} {at_ : Nat}
theorem pK (h : dP mo s y = .ok s2) : (s.out.length : Int) < mo ∧ s2 = { s with out := s.out ++ [y] } := by
  unfold dP at h
  split at h
  · cases h; rename_i k; exact ⟨k, rfl⟩
  · cases h
theorem lH (h : (s.out.length : Int) < mo) : dP mo s y = .ok { s with out := s.out ++ [y] } := if_pos h
theorem mc (h : ¬ (s.out.length : Int) < mo) : dP mo s y = .error 6 := if_neg h
theorem R4 (h : dP mo { s with at_ := at_ } y = .error e) : dP mo s y = .error e := by
  by_cases k : (s.out.length : Int) < mo
  · rw [lH (s := { s with at_ := at_ }) k] at h; cases h
  · rw [mc (s := { s with at_ := at_ }) k] at h; rw [mc k]; exact h
theorem Mh (B : List Int) (a : Nat) (mo : Int) (s : St) (y : Int) : 8 * B.length < a + 8 ∨ (a + 8 ≤ 8 * B.length ∧ ∃ e, dP mo s y = .error e) ∨ (a + 8 ≤ 8 * B.length ∧ ∃ s2, dP mo s y = .ok s2) := by
  rcases Nat.lt_or_ge (8 * B.length) (a + 8) with h | h
  · exact .inl h
  · rcases fF (dP mo s y) with k | k
    · exact .inr (.inl ⟨h, k⟩)
    · exact .inr (.inr ⟨h, k⟩)
theorem Of (h : 0 < s.aw) (k : (s.out.length : Int) < mo) : one B mo s = .ok { s with aw := s.aw - 1, out := s.out ++ [s.out.getD (s.out.length - s.bA) 0] } := by
  unfold one; rw [if_pos h]; exact lH k
theorem Rm (h : 0 < s.aw) (k : dP mo s (s.out.getD (s.out.length - s.bA) 0) = .error e) : one B mo s = .error e := by
  unfold one; rw [if_pos h]
  by_cases q : (s.out.length : Int) < mo
  · rw [lH q] at k; cases k
  · rw [mc q] at k; rw [← k]; exact mc q
theorem sL (h : ¬ 0 < s.aw) (k : s.kind = -1) : one B mo s = cM B s := by unfold one; rw [if_neg h, if_pos k]
theorem wc (h : ¬ 0 < s.aw) (k : ¬ s.kind = -1) (k0 : s.kind ≠ 0) : one B mo s = dT B mo s := by unfold one; rw [if_neg h, if_neg k, if_pos k0]
theorem sJ (h : ¬ 0 < s.aw) (k : ¬ s.kind = -1) (k0 : s.kind = 0) (l : s.left = 0) : one B mo s = .ok { s with kind := -1, ended := s.last } := by unfold one; rw [if_neg h, if_neg k, if_neg (by omega), if_pos l]
theorem xH (h : ¬ 0 < s.aw) (k : ¬ s.kind = -1) (k0 : s.kind = 0) (l : ¬ s.left = 0) (x : 8 * B.length < s.at_ + 8) : one B mo s = .error 2 := by unfold one; rw [if_neg h, if_neg k, if_neg (by omega), if_neg l, if_pos x]
theorem tc (h : ¬ 0 < s.aw) (k : ¬ s.kind = -1) (k0 : s.kind = 0) (l : ¬ s.left = 0) (x : s.at_ + 8 ≤ 8 * B.length) : one B mo s = dP mo { s with at_ := s.at_ + 8, left := s.left - 1 } (aJ B s.at_ 8) := by unfold one; rw [if_neg h, if_neg k, if_neg (by omega), if_neg l, if_neg (by omega)]
theorem one_le (h : ¬ 0 < s.aw) (k : ¬ s.kind = -1) (k0 : s.kind = 0) (l : ¬ s.left = 0) (x : s.at_ + 8 ≤ 8 * B.length) (p : dP mo { s with at_ := s.at_ + 8 } (aJ B s.at_ 8) = .error e) : one B mo s = .error e := by
  rw [tc h k k0 l x]
  by_cases q : (s.out.length : Int) < mo
  · rw [lH (s := { s with at_ := s.at_ + 8 }) q] at p; cases p
  · rw [mc (s := { s with at_ := s.at_ + 8 }) q] at p; rw [← p]; exact mc q
theorem CQ (h : ¬ 0 < s.aw) (k : ¬ s.kind = -1) (k0 : s.kind = 0) (l : ¬ s.left = 0) (x : s.at_ + 8 ≤ 8 * B.length) (q : (s.out.length : Int) < mo) : one B mo s = .ok { s with at_ := s.at_ + 8, left := s.left - 1, out := s.out ++ [aJ B s.at_ 8] } := by
  rw [tc h k k0 l x]; exact lH q
end
end Go.ab
namespace Go.ab
open Go.af Go.ae
theorem FZ : fb.length = 288 := by decide +kernel
theorem G9 : kq.length = 32 := by decide +kernel
def mu (B : List Int) (s : St) : Nat := (8 * B.length - s.at_) * 1000 + s.aw + (if s.kind = -1 then 0 else 1)
theorem IG {B : List Int} {s : St} (h : s.kind = -1) : mu B s = (8 * B.length - s.at_) * 1000 + s.aw := by unfold mu; rw [if_pos h, Nat.add_zero]
theorem R8 {B : List Int} {s : St} (h : ¬ s.kind = -1) : mu B s = (8 * B.length - s.at_) * 1000 + s.aw + 1 := by unfold mu; rw [if_neg h]
theorem n9 (B : List Int) (s : St) : mu B s ≤ (8 * B.length - s.at_) * 1000 + s.aw + 1 := by unfold mu; split <;> omega
theorem KD {l : List Int} {y : Int} (h : an l) (hy : 0 ≤ y ∧ y < 256) : an (l ++ [y]) := by
  intro x hx
  rcases List.mem_append.1 hx with hx | hx
  · exact h x hx
  · rw [List.mem_singleton.1 hx]; exact hy
structure Good (B : List Int) (mo : Int) (s s2 : St) : Prop where
  ok : Ok B mo s2
  less : mu B s2 < mu B s
  le : s.out.length ≤ s2.out.length
  one : s2.out.length ≤ s.out.length + 1
theorem rY {B : List Int} {mo : Int} {s s1 s2 : St} {y : Int} (hy : 0 ≤ y ∧ y < 256) (h : dP mo s1 y = .ok s2) (ho : s1.out = s.out) (hok : Ok B mo s1) (hl : mu B s1 < mu B s) (hf : s1.aw = 0 ∨ True) : Good B mo s s2 := by
  obtain ⟨k, rfl⟩ := pK h
  refine ⟨⟨hok.at_, by simp; omega, KD hok.o8 hy, hok.kind, hok.left, hok.Iu, hok.aw, fun h => ?_⟩, hl, by simp [ho], by simp [ho]⟩
  have := hok.bA h
  simp; omega
theorem kS {B : List Int} {mo : Int} {s s2 : St} (hB : an B) (hok : Ok B mo s) (h : one B mo s = .ok s2) : Good B mo s s2 := by
  obtain ⟨q1, q2, q3, q4, q5, q6, q7, q8⟩ := hok
  by_cases hc : 0 < s.aw
  · have he : dP mo { s with aw := s.aw - 1 } (s.out.getD (s.out.length - s.bA) 0) = .ok s2 := by unfold one at h; rw [if_pos hc] at h; exact h
    refine rY (q3.get _) he rfl ⟨q1, q2, q3, q4, q5, q6, by show s.aw - 1 < 400; omega, fun _ => q8 hc⟩ ?_ (.inr trivial)
    show (8 * B.length - s.at_) * 1000 + (s.aw - 1) + (if s.kind = -1 then 0 else 1) < (8 * B.length - s.at_) * 1000 + s.aw + (if s.kind = -1 then 0 else 1)
    omega
  by_cases hk : s.kind = -1
  · rw [sL hc hk] at h
    by_cases h1 : 8 * B.length < s.at_ + 3
    · rw [BT h1] at h; cases h
    have hx1 : s.at_ + 3 ≤ 8 * B.length := by omega
    have hm := IG (B := B) hk
    by_cases k0 : aJ B (s.at_ + 1) 2 = 0
    · by_cases hx : 8 * B.length < cS (s.at_ + 3) + 32
      · rw [xv hx1 k0 hx] at h; cases h
      · by_cases hn : aJ B (cS (s.at_ + 3)) 16 = 65535 - aJ B (cS (s.at_ + 3) + 16) 16
        · rw [yE hx1 k0 (by omega) hn] at h; cases h
          have hb := bF B (cS (s.at_ + 3)) 16
          have ha := xU (s.at_ + 3)
          refine ⟨⟨by show cS (s.at_ + 3) + 32 ≤ _; omega, q2, q3, .inr (.inl rfl), by show (aJ B (cS (s.at_ + 3)) 16).toNat < 65536; omega, fun h => absurd h (by show ¬ (0 : Int) < 0; omega), q7, q8⟩, ?_, Nat.le_refl _, Nat.le_succ _⟩
          refine Nat.lt_of_le_of_lt (n9 B _) ?_
          rw [hm]
          show (8 * B.length - (cS (s.at_ + 3) + 32)) * 1000 + s.aw + 1 < _
          omega
        · rw [DA hx1 k0 (by omega) hn] at h; cases h
    · by_cases k1 : aJ B (s.at_ + 1) 2 = 1
      · rw [Jb hx1 k1] at h; cases h
        refine ⟨⟨hx1, q2, q3, .inr (.inr (.inl rfl)), q5, fun _ => ⟨zI, zn, by show 0 < fb.length; rw [FZ]; decide, by show 0 < kq.length; rw [G9]; decide⟩, q7, q8⟩, ?_, Nat.le_refl _, Nat.le_succ _⟩
        refine Nat.lt_of_le_of_lt (n9 B _) ?_
        rw [hm]
        show (8 * B.length - (s.at_ + 3)) * 1000 + s.aw + 1 < _
        omega
      · by_cases k2 : aJ B (s.at_ + 1) 2 = 2
        · rcases fF (told B (s.at_ + 3)) with ⟨e, ht⟩ | ⟨⟨a, l, d⟩, ht⟩
          · rw [EM hx1 k2 ht] at h; cases h
          · rw [CV hx1 k2 ht] at h; cases h
            obtain ⟨t1, t2, t3, t4, t5, t6⟩ := Ck ht
            refine ⟨⟨t6, q2, q3, .inr (.inr (.inr rfl)), q5, fun _ => ⟨t1, t2, t3, t4⟩, q7, q8⟩, ?_, Nat.le_refl _, Nat.le_succ _⟩
            refine Nat.lt_of_le_of_lt (n9 B _) ?_
            rw [hm]
            show (8 * B.length - a) * 1000 + s.aw + 1 < _
            omega
        · rw [Ds hx1 k0 k1 k2] at h; cases h
  have hm := R8 (B := B) hk
  by_cases hk0 : s.kind = 0
  · by_cases hl : s.left = 0
    · rw [sJ hc hk hk0 hl] at h; cases h
      refine ⟨⟨q1, q2, q3, .inl rfl, q5, fun h => absurd h (by show ¬ (0 : Int) < -1; omega), q7, q8⟩, ?_, Nat.le_refl _, Nat.le_succ _⟩
      rw [hm, IG rfl]
      show (8 * B.length - s.at_) * 1000 + s.aw < _
      omega
    · by_cases hx : 8 * B.length < s.at_ + 8
      · rw [xH hc hk hk0 hl hx] at h; cases h
      · rw [tc hc hk hk0 hl (by omega)] at h
        have hb := bF B s.at_ 8
        refine rY (by omega) h rfl ⟨by show s.at_ + 8 ≤ _; omega, q2, q3, q4, by show s.left - 1 < 65536; omega, q6, q7, q8⟩ ?_ (.inr trivial)
        refine Nat.lt_of_le_of_lt (n9 B _) ?_
        rw [hm]
        show (8 * B.length - (s.at_ + 8)) * 1000 + s.aw + 1 < _
        omega
  · rw [wc hc hk hk0] at h
    have hkp : 0 < s.kind := by omega
    obtain ⟨e1, e2, z1, z2⟩ := q6 hkp
    rcases yc (B := B) (a := s.at_) e1 z1 with ⟨e, hs⟩ | ⟨y, a1, hs, y0, y1, a0, ha1⟩
    · rw [vX hs] at h; cases h
    by_cases hy : y < 256
    · rw [m0 hs hy] at h
      refine rY (by omega) h rfl ⟨ha1, q2, q3, q4, q5, q6, q7, q8⟩ ?_ (.inr trivial)
      refine Nat.lt_of_le_of_lt (n9 B _) ?_
      rw [hm]
      show (8 * B.length - a1) * 1000 + s.aw + 1 < _
      omega
    by_cases hy2 : y = 256
    · rw [qw hs hy2] at h; cases h
      refine ⟨⟨ha1, q2, q3, .inl rfl, q5, fun h => absurd h (by show ¬ (0 : Int) < -1; omega), q7, q8⟩, ?_, Nat.le_refl _, Nat.le_succ _⟩
      refine Nat.lt_of_le_of_lt (n9 B _) ?_
      rw [hm]
      show (8 * B.length - a1) * 1000 + s.aw + 1 < _
      omega
    rcases Cy (B := B) (s := y - 257) (a := a1) (by omega) ha1 with ⟨e, hn⟩ | ⟨n, a2, hn, n0, n1, n2, n3⟩
    · rw [vY hs (by omega) hn] at h; cases h
    rcases Ae (B := B) (a := a2) e2 z2 with ⟨e, hf⟩ | ⟨f, a3, hf, f0, f1, f2, f3⟩
    · rw [vJ hs (by omega) hn hf] at h; cases h
    by_cases hfo : f ≤ s.out.length
    · rw [wa hs (by omega) hn hf (by omega)] at h; cases h
      refine ⟨⟨f3, q2, q3, q4, q5, q6, by show ((n : Int)).toNat < 400; omega, fun _ => by show 1 ≤ ((f : Int)).toNat ∧ ((f : Int)).toNat ≤ s.out.length; omega⟩, ?_, Nat.le_refl _, Nat.le_succ _⟩
      refine Nat.lt_of_le_of_lt (n9 B _) ?_
      rw [hm]
      show (8 * B.length - a3) * 1000 + ((n : Int)).toNat + 1 < _
      omega
    · rw [vI hs (by omega) hn hf (by omega)] at h; cases h
inductive Lp (B : List Int) (mo : Int) (w : Nat) (n : Int) : St → Except Int St → Prop
  | stop {s : St} : (s.ended = true ∨ n ≤ (s.out.length : Int) - w) → Lp B mo w n s (.ok s)
  | step {s s' : St} {o : Except Int St} : s.ended = false → (s.out.length : Int) - w < n → one B mo s = .ok s' → Lp B mo w n s' o → Lp B mo w n s o
  | fail {s : St} {e : Int} : s.ended = false → (s.out.length : Int) - w < n → one B mo s = .error e → Lp B mo w n s (.error e)
theorem T6 {B : List Int} {mo : Int} (hB : an B) (w : Nat) (n : Int) : ∀ (k : Nat) {s : St}, mu B s ≤ k → Ok B mo s → ∃ o, Lp B mo w n s o := by
  intro k
  induction k with
  | zero =>
    intro s hk hok
    by_cases h1 : s.ended = true
    · exact ⟨_, .stop (.inl h1)⟩
    by_cases h2 : n ≤ (s.out.length : Int) - w
    · exact ⟨_, .stop (.inr h2)⟩
    rcases fF (one B mo s) with ⟨e, h⟩ | ⟨s2, h⟩
    · exact ⟨_, .fail (by simpa using h1) (by omega) h⟩
    · have := (kS hB hok h).less; omega
  | succ k ih =>
    intro s hk hok
    by_cases h1 : s.ended = true
    · exact ⟨_, .stop (.inl h1)⟩
    by_cases h2 : n ≤ (s.out.length : Int) - w
    · exact ⟨_, .stop (.inr h2)⟩
    rcases fF (one B mo s) with ⟨e, h⟩ | ⟨s2, h⟩
    · exact ⟨_, .fail (by simpa using h1) (by omega) h⟩
    · have hg := kS hB hok h
      have := hg.less
      obtain ⟨o, ho⟩ := ih (show mu B s2 ≤ k by omega) hg.ok
      exact ⟨o, .step (by simpa using h1) (by omega) h ho⟩
theorem KG {B : List Int} {mo : Int} {w : Nat} {n : Int} {s : St} {o : Except Int St} (hB : an B) (h : Lp B mo w n s o) : Ok B mo s → (∀ s2, o = .ok s2 → Ok B mo s2 ∧ mu B s2 ≤ mu B s ∧ gw B mo s s2 ∧ (s2.ended = true ∨ n ≤ (s2.out.length : Int) - w) ∧ (s.ended = false → (s.out.length : Int) - w < n → mu B s2 < mu B s) ∧ s.out.length ≤ s2.out.length) ∧ (∀ e, o = .error e → je B mo s (.error e)) := by
  induction h with
  | stop h => intro hok; exact ⟨fun s2 e => by cases e; exact ⟨hok, Nat.le_refl _, .refl _ _ _, h, fun h1 h2 => by rcases h with h | h; (rw [h1] at h; cases h); omega, Nat.le_refl _⟩, fun e h => by cases h⟩
  | step h1 h2 h3 h4 ih =>
    intro hok
    have hg := kS hB hok h3
    have hl := hg.less
    have hle := hg.le
    obtain ⟨k1, k2⟩ := ih hg.ok
    refine ⟨fun s2 e => ?_, fun e h => .step h1 h3 (k2 e h)⟩
    obtain ⟨m1, m2, m3, m4, m5, m6⟩ := k1 s2 e
    exact ⟨m1, by omega, (gw.one h1 h3).trans m3, m4, fun _ _ => by omega, by omega⟩
  | fail h1 h2 h3 => intro hok; exact ⟨fun s2 e => (by cases e), fun e h => by cases h; exact .fail h1 h3⟩
abbrev Jt := Except Int St
def jN : Jt → Bool
  | .ok s => s.ended
  | .error _ => true
def pJ : Jt → List Int
  | .ok s => if s.ended = true then s.out else []
  | .error _ => []
def Cd : Jt → Int
  | .ok _ => 0
  | .error e => e
def qk : Jt → Int
  | .ok s => if s.ended = true then ((s.at_ + 7) / 8 : Nat) else 0
  | .error _ => 0
def vG (B : List Int) (mo : Int) : Jt → Prop
  | .ok s => Ok B mo s
  | .error e => e ≠ 0
def A5 (B : List Int) (mo n : Int) (r r' : Jt) : Prop := ((n < 1 ∨ jN r = true) ∧ r' = r) ∨ (1 ≤ n ∧ ∃ s, r = .ok s ∧ s.ended = false ∧ Lp B mo s.out.length n s r')
def DV (B : List Int) (mo : Int) (s0 : St) : Jt → Prop
  | .ok s => gw B mo s0 s
  | .error e => je B mo s0 (.error e)
def Ou : Oc → List Int × Int × Int
  | .ok (x, n) => (x, (n : Int), 0)
  | .error e => ([], 0, e)
theorem oa {B : List Int} {mo : Int} (h : 0 ≤ mo) : Ok B mo start := ⟨Nat.zero_le _, by show ((0 : Nat) : Int) ≤ mo; omega, fun x hx => (by cases hx), .inl rfl, by decide, fun h => absurd h (by decide), by decide, fun h => absurd h (by decide)⟩
end Go.ab
namespace Go.ab
section
variable {B : List Int} {mo n e : Int} {w : Nat} {s s2 : St} {o : Except Int St}
theorem IC (h : Lp B mo w n s o) (k : s.ended = true ∨ n ≤ (s.out.length : Int) - w) : o = .ok s := by
  cases h with
  | stop _ => rfl
  | step h1 h2 => exfalso; rcases k with k | k; (rw [h1] at k; cases k); omega
  | fail h1 h2 => exfalso; rcases k with k | k; (rw [h1] at k; cases k); omega
theorem TX (h : Lp B mo w n s o) (k1 : s.ended = false) (k2 : (s.out.length : Int) - w < n) (p : one B mo s = .ok s2) : Lp B mo w n s2 o := by
  cases h with
  | stop h => exfalso; rcases h with k | k; (rw [k1] at k; cases k); omega
  | step _ _ h3 h4 => rw [h3] at p; cases p; exact h4
  | fail _ _ h3 => rw [h3] at p; cases p
theorem TW (h : Lp B mo w n s o) (k1 : s.ended = false) (k2 : (s.out.length : Int) - w < n) (p : one B mo s = .error e) : o = .error e := by
  cases h with
  | stop h => exfalso; rcases h with k | k; (rw [k1] at k; cases k); omega
  | step _ _ h3 h4 => rw [h3] at p; cases p
  | fail _ _ h3 => rw [h3] at p; cases p; rfl
end
end Go.ab
namespace Go.ab
open Go.af Go.ae
section
variable {B : List Int} {mo e : Int}
theorem ya {ls : List Int} {a : Nat} (h : sym ls B a = .error e) : e ≠ 0 := by
  unfold sym at h; split at h <;> cases h <;> decide
theorem Mo {l : List Int} {s : Int} {a : Nat} (h : rep B s l a = .error e) : e ≠ 0 := by
  unfold rep at h
  split at h
  · cases h
  split at h
  · cases h; decide
  split at h
  · cases h; decide
  · cases h
theorem LH {c : List Int} {tot : Nat} : ∀ {f : Nat} {l : List Int} {a : Nat}, eG B c tot f l a = .error e → e ≠ 0 := by
  intro f
  induction f with
  | zero => intro l a h; cases h
  | succ f ih =>
    intro l a h
    simp only [eG] at h
    split at h
    · rcases BR B c l a with ⟨e2, hs⟩ | ⟨sy, x2, e2, hs, hr⟩ | ⟨sy, x2, v, n, x3, hs, hr⟩
      · rw [se hs] at h; cases h; exact ya hs
      · rw [rv hs hr] at h; cases h; exact Mo hr
      · rw [lO hs hr] at h
        simp only at h
        split at h
        · exact ih h
        · cases h; decide
    · cases h
theorem KX {a : Nat} (h : told B a = .error e) : e ≠ 0 := by
  unfold told at h
  split at h
  · cases h; decide
  split at h
  · cases h; decide
  split at h
  · cases h; decide
  split at h
  · cases h; decide
  split at h
  · rename_i e2 h2; cases h; exact LH h2
  · split at h
    · cases h; decide
    · cases h
theorem wq {s : St} {y : Int} (h : dP mo s y = .error e) : e ≠ 0 := by
  unfold dP at h; split at h <;> cases h; decide
theorem NL {s : Int} {a : Nat} (h : eo B s a = .error e) : e ≠ 0 := by
  unfold eo at h
  split at h
  · cases h; decide
  split at h
  · cases h; decide
  · cases h
theorem JW {ds : List Int} {a : Nat} (h : dw B ds a = .error e) : e ≠ 0 := by
  unfold dw at h
  split at h
  · rename_i e2 h2; cases h; exact ya h2
  · split at h
    · cases h; decide
    split at h
    · cases h; decide
    · cases h
theorem Hn {s : St} (h : cM B s = .error e) : e ≠ 0 := by
  unfold cM at h
  split at h
  · cases h; decide
  split at h
  · split at h
    · cases h; decide
    split at h
    · cases h
    · cases h; decide
  split at h
  · cases h
  split at h
  · split at h
    · rename_i e2 h2; cases h; exact KX h2
    · cases h
  · cases h; decide
theorem Hi {s : St} (h : dT B mo s = .error e) : e ≠ 0 := by
  rcases fF (sym s.lits B s.at_) with ⟨e2, hs⟩ | ⟨⟨y, a⟩, hs⟩
  · rw [vX hs] at h; cases h; exact ya hs
  by_cases h1 : y < 256
  · rw [m0 hs h1] at h; exact wq h
  by_cases h2 : y = 256
  · rw [qw hs h2] at h; cases h
  rcases fF (eo B (y - 257) a) with ⟨e2, hn⟩ | ⟨⟨n, a2⟩, hn⟩
  · rw [vY hs (by omega) hn] at h; cases h; exact NL hn
  rcases fF (dw B s.dH a2) with ⟨e2, hf⟩ | ⟨⟨f, a3⟩, hf⟩
  · rw [vJ hs (by omega) hn hf] at h; cases h; exact JW hf
  by_cases h3 : f ≤ s.out.length
  · rw [wa hs (by omega) hn hf h3] at h; cases h
  · rw [vI hs (by omega) hn hf h3] at h; cases h; decide
theorem D3 {s : St} (h : one B mo s = .error e) : e ≠ 0 := by
  unfold one at h
  split at h
  · exact wq h
  split at h
  · exact Hn h
  split at h
  · exact Hi h
  split at h
  · cases h
  split at h
  · cases h; decide
  · exact wq h
theorem Iv {s : St} {w : Nat} {n : Int} {o : Jt} (h : Lp B mo w n s o) : o = .error e → e ≠ 0 := by
  induction h with
  | stop _ => intro h; cases h
  | step _ _ _ _ ih => exact ih
  | fail _ _ h => intro q; cases q; exact D3 h
theorem LC {s : St} {o : Oc} (h : je B mo s o) : o = .error e → e ≠ 0 := by
  induction h with
  | done _ => intro h; cases h
  | step _ _ _ ih => exact ih
  | fail _ h => intro q; cases q; exact D3 h
end
def Er (B : List Int) : Jt → Nat
  | .ok s => mu B s + 1
  | .error _ => 0
def BJ : Jt → Nat
  | .ok s => s.out.length
  | .error _ => 0
theorem Fv {B : List Int} {mo : Int} {r : Jt} (hB : an B) (hok : vG B mo r) (n : Int) : ∃ r', A5 B mo n r r' := by
  by_cases hn : n < 1
  · exact ⟨r, .inl ⟨.inl hn, rfl⟩⟩
  cases r with
  | error e => exact ⟨_, .inl ⟨.inr rfl, rfl⟩⟩
  | ok s =>
    cases he : s.ended with
    | true => exact ⟨_, .inl ⟨.inr he, rfl⟩⟩
    | false =>
      obtain ⟨o, ho⟩ := T6 hB s.out.length n _ (Nat.le_refl _) hok
      exact ⟨o, .inr ⟨by omega, s, rfl, he, ho⟩⟩
structure SG (B : List Int) (mo : Int) (s0 : St) (n : Int) (r r' : Jt) : Prop where
  ok : vG B mo r'
  at_ : DV B mo s0 r'
  le : Er B r' ≤ Er B r
  less : jN r = false → 1 ≤ n → Er B r' < Er B r
  out : jN r = false → 1 ≤ n → jN r' = true ∨ BJ r + 1 ≤ BJ r'
  stay : (n < 1 ∨ jN r = true) → r' = r
theorem BG {B : List Int} {mo n : Int} {s0 : St} {r r' : Jt} (hB : an B) (hok : vG B mo r) (hat : DV B mo s0 r) (h : A5 B mo n r r') : SG B mo s0 n r r' := by
  rcases h with ⟨hx, rfl⟩ | ⟨hn, s, rfl, he, hl⟩
  · refine ⟨hok, hat, Nat.le_refl _, fun h1 h2 => ?_, fun h1 h2 => ?_, fun _ => rfl⟩ <;> (exfalso; rcases hx with hx | hx; omega; rw [h1] at hx; cases hx)
  · obtain ⟨k1, k2⟩ := KG hB hl hok
    cases r' with
    | ok s2 =>
      obtain ⟨m1, m2, m3, m4, m5, m6⟩ := k1 s2 rfl
      have := m5 he (by omega)
      refine ⟨m1, hat.trans m3, by show mu B s2 + 1 ≤ mu B s + 1; omega, fun _ _ => by show mu B s2 + 1 < mu B s + 1; omega, fun _ _ => ?_, fun hx => ?_⟩
      · rcases m4 with m4 | m4
        · exact .inl m4
        · right; show s.out.length + 1 ≤ s2.out.length; omega
      · exfalso; rcases hx with hx | hx
        · omega
        · rw [show jN (.ok s) = s.ended from rfl, he] at hx; cases hx
    | error e =>
      refine ⟨Iv hl rfl, hat _ (k2 e rfl), Nat.zero_le _, fun _ _ => Nat.succ_pos _, fun _ _ => .inl rfl, fun hx => ?_⟩
      exfalso; rcases hx with hx | hx
      · omega
      · rw [show jN (.ok s) = s.ended from rfl, he] at hx; cases hx
def iR (B : List Int) (mo : Int) (q : List Int × Int × Int) : Prop := (mo < 0 ∧ q = ([], 0, 1)) ∨ (0 ≤ mo ∧ ∃ o, je B mo start o ∧ q = Ou o)
theorem iR.Em {B : List Int} {mo : Int} {q q' : List Int × Int × Int} (h : iR B mo q) (h' : iR B mo q') : q = q' := by
  rcases h with ⟨a, rfl⟩ | ⟨a, o, r, rfl⟩ <;> rcases h' with ⟨a', rfl⟩ | ⟨a', o', r', rfl⟩
  · rfl
  · omega
  · omega
  · rw [r.Em r']
theorem JX {B : List Int} {mo : Int} {r : Jt} (hm : 0 ≤ mo) (h : DV B mo start r) (he : jN r = true) : iR B mo (pJ r, qk r, Cd r) := by
  refine .inr ⟨hm, ?_⟩
  cases r with
  | ok s => exact ⟨.ok (s.out, (s.at_ + 7) / 8), h _ (.done he), by simp only [pJ, qk, Cd, Ou]; rw [if_pos (show s.ended = true from he), if_pos (show s.ended = true from he)]⟩
  | error e => exact ⟨.error e, h, rfl⟩
theorem Ez {B : List Int} {mo : Int} (hB : an B) {s : St} {o : Oc} (h : je B mo s o) : Ok B mo s → ∀ x n, o = .ok (x, n) → (x.length : Int) ≤ mo ∧ n ≤ B.length ∧ an x := by
  induction h with
  | done h => intro hok x n e; cases e; exact ⟨hok.room, by have := hok.at_; omega, hok.o8⟩
  | step h1 h2 h3 ih => intro hok; exact ih (kS hB hok h2).ok
  | fail _ _ => intro _ x n e; cases e
end Go.ab
namespace Go.ab
open Go.af Go.ae
def ZG (mo : Int) : Jt := if mo < 0 then .error 1 else .ok start
structure Way (B : List Int) (mo : Int) (r : Jt) : Prop where
  ok : vG B mo r
  at_ : (0 ≤ mo ∧ DV B mo start r) ∨ (mo < 0 ∧ r = .error 1)
structure ZA (B : List Int) (mo n : Int) (r r' : Jt) : Prop where
  Z0 : Way B mo r'
  out : jN r = false → 1 ≤ n → jN r' = true ∨ BJ r + 1 ≤ BJ r'
  stay : (n < 1 ∨ jN r = true) → r' = r
end Go.ab
namespace Go.ab
open Go.af Go.ae
end Go.ab
namespace Go.ab
open Go.af Go.ae
def Zp : List Int := [3, 4, 5, 6, 7, 8, 9, 10, 11, 13, 15, 17, 19, 23, 27, 31, 35, 43, 51, 59, 67, 83, 99, 115, 131, 163, 195, 227, 258]
def Zj : List Int := [0, 0, 0, 0, 0, 0, 0, 0, 1, 1, 1, 1, 2, 2, 2, 2, 3, 3, 3, 3, 4, 4, 4, 4, 5, 5, 5, 5, 0]
structure Dn (B : List Int) (mo : Int) (S S' : St) : Prop where
  Cb : gw B mo S S'
  ok : Ok B mo S'
  kind : S'.kind = -1
  aw : S'.aw = 0
  ended : S'.ended = S'.last
  last : S'.last = S.last
structure In (B : List Int) (mo : Int) (S s : St) : Prop where
  Cb : gw B mo S s
  ok : Ok B mo s
  kind : s.kind = S.kind
  aw : s.aw = 0
  ended : s.ended = false
  last : s.last = S.last
  lits : s.lits = S.lits
  dH : s.dH = S.dH
section
variable {B : List Int} {mo e : Int} {S s s2 : St}
end
end Go.ab
namespace Go.ab
open Go.af Go.ae
inductive Bl (B : List Int) (mo : Int) : St → Except Int St → Prop
  | done {s : St} : s.kind = -1 → Bl B mo s (.ok s)
  | step {s s' : St} {o : Except Int St} : ¬ s.kind = -1 → one B mo s = .ok s' → Bl B mo s' o → Bl B mo s o
  | fail {s : St} {e : Int} : ¬ s.kind = -1 → one B mo s = .error e → Bl B mo s (.error e)
section
variable {B : List Int} {mo e : Int} {s s2 : St} {o : Except Int St}
structure Left (B : List Int) (mo : Int) (s s2 : St) : Prop where
  Cb : gw B mo s s2
  ok : Ok B mo s2
  kind : s2.kind = -1
  aw : s2.aw = 0
  ended : s2.ended = s2.last
  last : s2.last = s.last
  less : mu B s2 ≤ mu B s
end
def BO (B : List Int) (mo : Int) (S : St) (o : Except Int St) : Prop := (∃ e, cM B S = .error e ∧ o = .error e) ∨ (∃ S1, cM B S = .ok S1 ∧ Bl B mo S1 o)
section
variable {B : List Int} {mo e : Int} {S S1 : St} {o : Except Int St}
end
section
variable {B ds : List Int} {s d : Int} {a a3 n : Nat}
end
end Go.ab
namespace Go.ab
end Go.ab
namespace Go.ab
end Go.ab
namespace Go.ab
open Go.af
end Go.ab
namespace Go.ab
open Go.af Go.ae
def run (B : List Int) (mo : Int) : Nat → St → Option Oc
  | 0, _ => none
  | f + 1, s => if s.ended = true then some (.ok (s.out, (s.at_ + 7) / 8)) else match one B mo s with
    | .error e => some (.error e)
    | .ok s' => run B mo f s'
def ZI (B : List Int) (mo : Int) (f : Nat) (q : List Int × Int × Int) : Bool := match run B mo f start with
  | some o => decide (Ou o = q)
  | none => false
end Go.ab
namespace Go.ab
end Go.ab
namespace Go.ab
open Go.af Go.ae
section
variable {B : List Int} {mo mo' y : Int} {s s2 : St}
theorem yh (h : dP mo s y = .ok s2) : ((s2.out.length : Int) ≤ mo' → dP mo' s y = .ok s2) ∧ (mo' < s2.out.length → dP mo' s y = .error 6) := by
  obtain ⟨k, rfl⟩ := pK h
  have hl : ({ s with out := s.out ++ [y] } : St).out.length = s.out.length + 1 := by simp
  rw [hl]
  exact ⟨fun h => lH (by omega), fun h => mc (by omega)⟩
theorem F8 (h : dT B mo s = .ok s2) (hs : (s.out.length : Int) ≤ mo') : ((s2.out.length : Int) ≤ mo' → dT B mo' s = .ok s2) ∧ (mo' < s2.out.length → dT B mo' s = .error 6) := by
  rcases fF (sym s.lits B s.at_) with ⟨e, h1⟩ | ⟨⟨y, a⟩, h1⟩
  · rw [vX h1] at h; cases h
  by_cases hy : y < 256
  · rw [m0 h1 hy] at h ⊢; exact yh h
  by_cases hy2 : y = 256
  · rw [qw h1 hy2] at h ⊢; cases h; exact ⟨fun _ => rfl, fun k => by simp only at k; omega⟩
  rcases fF (eo B (y - 257) a) with ⟨e, hn⟩ | ⟨⟨n, a2⟩, hn⟩
  · rw [vY h1 (by omega) hn] at h; cases h
  rcases fF (dw B s.dH a2) with ⟨e, hf⟩ | ⟨⟨f, a3⟩, hf⟩
  · rw [vJ h1 (by omega) hn hf] at h; cases h
  by_cases hfo : f ≤ s.out.length
  · rw [wa h1 (by omega) hn hf hfo] at h ⊢; cases h; exact ⟨fun _ => rfl, fun k => by simp only at k; omega⟩
  · rw [vI h1 (by omega) hn hf hfo] at h; cases h
theorem x7 (h : one B mo s = .ok s2) (hs : (s.out.length : Int) ≤ mo') : ((s2.out.length : Int) ≤ mo' → one B mo' s = .ok s2) ∧ (mo' < s2.out.length → one B mo' s = .error 6) := by
  by_cases hc : 0 < s.aw
  · unfold one at h ⊢; rw [if_pos hc] at h ⊢; exact yh h
  by_cases hk : s.kind = -1
  · rw [sL hc hk] at h ⊢
    refine ⟨fun _ => h, fun k => ?_⟩
    exfalso
    have : s2.out = s.out := by
      unfold cM at h
      split at h
      · cases h
      split at h
      · split at h
        · cases h
        split at h
        · cases h; rfl
        · cases h
      split at h
      · cases h; rfl
      split at h
      · split at h
        · cases h
        · cases h; rfl
      · cases h
    rw [this] at k; omega
  by_cases hk0 : s.kind = 0
  · by_cases hl : s.left = 0
    · rw [sJ hc hk hk0 hl] at h ⊢; cases h; exact ⟨fun _ => rfl, fun k => by simp only at k; omega⟩
    · by_cases hx : 8 * B.length < s.at_ + 8
      · rw [xH hc hk hk0 hl hx] at h; cases h
      · rw [tc hc hk hk0 hl (by omega)] at h ⊢; exact yh h
  · rw [wc hc hk hk0] at h ⊢; exact F8 h hs
theorem zt {o : Oc} (hB : an B) (h : je B mo s o) : Ok B mo s → ∀ x n, o = .ok (x, n) → s.out.length ≤ x.length ∧ ((x.length : Int) ≤ mo' → je B mo' s (.ok (x, n))) ∧ ((s.out.length : Int) ≤ mo' → mo' < x.length → je B mo' s (.error 6)) := by
  induction h with
  | done h => intro hok x n e; cases e; exact ⟨Nat.le_refl _, fun _ => .done h, fun h1 h2 => by omega⟩
  | step h1 h2 h3 ih =>
    intro hok x n e
    have hg := kS hB hok h2
    obtain ⟨k1, k2, k3⟩ := ih hg.ok x n e
    have hle := hg.le
    refine ⟨by omega, fun k => .step h1 ((x7 h2 (by omega)).1 (by omega)) (k2 k), fun q1 q2 => ?_⟩
    rename_i s' _
    by_cases hc : mo' < s'.out.length
    · exact .fail h1 ((x7 h2 q1).2 hc)
    · exact .step h1 ((x7 h2 q1).1 (by omega)) (k3 (by omega) q2)
  | fail _ _ => intro _ x n e; cases e
end
end Go.ab
namespace Go.ab
open Go.af Go.ae
section
variable {B : List Int}
theorem iC (j i : Nat) (hi : i < 8) : hJ B (8 * j + i) = B.getD j 0 / 2 ^ i % 2 := by
  unfold hJ
  rw [show (8 * j + i) / 8 = j by omega, show (8 * j + i) % 8 = i by omega]
theorem th (a m : Nat) : ∀ n, aJ B a (m + n) = aJ B a m + aJ B (a + m) n * 2 ^ m
  | 0 => by simp [aJ]
  | n + 1 => by
    have := th a m n
    show aJ B a (m + n) + hJ B (a + (m + n)) * 2 ^ (m + n) = aJ B a m + (aJ B (a + m) n + hJ B (a + m + n) * 2 ^ n) * 2 ^ m
    rw [this, Int.add_mul, Int.add_assoc, Nat.add_assoc a m n, Int.mul_assoc, ← Int.pow_add, Nat.add_comm n m]
theorem wj {j : Nat} (hb : 0 ≤ B.getD j 0 ∧ B.getD j 0 < 256) : aJ B (8 * j) 8 = B.getD j 0 := by
  simp only [aJ]
  rw [show 8 * j + 0 = 8 * j + 0 from rfl, iC j 0 (by omega), iC j 1 (by omega), iC j 2 (by omega), iC j 3 (by omega), iC j 4 (by omega), iC j 5 (by omega), iC j 6 (by omega), iC j 7 (by omega)]
  generalize B.getD j 0 = b at hb ⊢
  simp only [show (2 : Int) ^ 0 = 1 from rfl, show (2 : Int) ^ 1 = 2 from rfl, show (2 : Int) ^ 2 = 4 from rfl, show (2 : Int) ^ 3 = 8 from rfl, show (2 : Int) ^ 4 = 16 from rfl, show (2 : Int) ^ 5 = 32 from rfl, show (2 : Int) ^ 6 = 64 from rfl, show (2 : Int) ^ 7 = 128 from rfl]
  omega
theorem AJ {j : Nat} (hb : 0 ≤ B.getD j 0 ∧ B.getD j 0 < 256) (hc : 0 ≤ B.getD (j + 1) 0 ∧ B.getD (j + 1) 0 < 256) : aJ B (8 * j) 16 = B.getD j 0 + 256 * B.getD (j + 1) 0 := by
  rw [show (16 : Nat) = 8 + 8 from rfl, th, wj hb, show 8 * j + 8 = 8 * (j + 1) by omega, wj hc]
  omega
theorem Hr {mo : Int} (hB : an B) : ∀ (X : List Int) {s : St} {pos : Nat}, s.kind = 0 → s.aw = 0 → s.ended = false → s.left = X.length → s.at_ = 8 * pos → (∀ i, i < X.length → B.getD (pos + i) 0 = X.getD i 0) → pos + X.length ≤ B.length → (s.out.length : Int) + X.length ≤ mo →
    ∃ s', gw B mo s s' ∧ s'.at_ = 8 * (pos + X.length) ∧ s'.out = s.out ++ X ∧ s'.kind = -1 ∧ s'.aw = 0 ∧ s'.ended = s.last := by
  intro X
  induction X with
  | nil =>
    intro s pos hk hc he hl ha hx hp hm
    have h1 := sJ (B := B) (mo := mo) (s := s) (by omega) (by omega) hk hl
    exact ⟨_, gw.one he h1, by simpa using ha, by simp, rfl, hc, rfl⟩
  | cons x X ih =>
    intro s pos hk hc he hl ha hx hp hm
    have hx0 : B.getD pos 0 = x := by simpa using hx 0 (by simp)
    have hp2 : pos + (X.length + 1) ≤ B.length := by simpa using hp
    have hl2 : s.left = X.length + 1 := by simpa using hl
    have hm2 : (s.out.length : Int) + (X.length + 1) ≤ mo := by simpa using hm
    have h1 := CQ (B := B) (mo := mo) (s := s) (by omega) (by omega) hk (by omega) (by omega) (by omega)
    rw [ha, wj (hB.get pos), hx0] at h1
    obtain ⟨s', g, a1, a2, a3, a4, a5⟩ := ih (s := { s with at_ := 8 * pos + 8, left := s.left - 1, out := s.out ++ [x] }) (pos := pos + 1) hk hc he (by show s.left - 1 = X.length; omega) (by show 8 * pos + 8 = 8 * (pos + 1); omega) (fun i hi => by
      have := hx (i + 1) (by simp; omega)
      rw [show pos + 1 + i = pos + (i + 1) by omega, this]; simp) (by omega) (by show ((s.out ++ [x]).length : Int) + X.length ≤ mo; simp; omega)
    exact ⟨s', (gw.one he h1).trans g, by rw [a1]; simp; omega, by rw [a2]; simp, a3, a4, a5⟩
def eY (la : Int) (X : List Int) : List Int := [la, (X.length : Int) % 256, (X.length : Int) / 256, 255 - (X.length : Int) % 256, 255 - (X.length : Int) / 256] ++ X
theorem j8 (la : Int) (X : List Int) : (eY la X).length = 5 + X.length := by simp [eY]; omega
theorem uU {mo : Int} (hB : an B) {s : St} {pos : Nat} {la : Int} {X : List Int} (hla : la = 0 ∨ la = 1) (hX : X.length ≤ 65535) (hk : s.kind = -1) (hc : s.aw = 0) (he : s.ended = false) (ha : s.at_ = 8 * pos) (hx : ∀ i, i < (eY la X).length → B.getD (pos + i) 0 = (eY la X).getD i 0) (hp : pos + (eY la X).length ≤ B.length) (hm : (s.out.length : Int) + X.length ≤ mo) :
    ∃ s', gw B mo s s' ∧ s'.at_ = 8 * (pos + (eY la X).length) ∧ s'.out = s.out ++ X ∧ s'.kind = -1 ∧ s'.aw = 0 ∧ s'.ended = decide (la = 1) := by
  have hbl := j8 la X
  have b0 : B.getD pos 0 = la := by simpa [eY] using hx 0 (by omega)
  have b1 : B.getD (pos + 1) 0 = (X.length : Int) % 256 := by simpa [eY] using hx 1 (by omega)
  have b2 : B.getD (pos + 2) 0 = (X.length : Int) / 256 := by simpa [eY] using hx 2 (by omega)
  have b3 : B.getD (pos + 3) 0 = 255 - (X.length : Int) % 256 := by simpa [eY] using hx 3 (by omega)
  have b4 : B.getD (pos + 4) 0 = 255 - (X.length : Int) / 256 := by simpa [eY] using hx 4 (by omega)
  have e0 : aJ B s.at_ 1 = la := by
    rw [ha, xw, show 8 * pos = 8 * pos + 0 from rfl, iC pos 0 (by omega), b0]
    rcases hla with rfl | rfl <;> rfl
  have e1 : aJ B (s.at_ + 1) 2 = 0 := by
    rw [ha]
    simp only [aJ]
    rw [show 8 * pos + 1 + 0 = 8 * pos + 1 from rfl, show 8 * pos + 1 + 1 = 8 * pos + 2 from rfl, iC pos 1 (by omega), iC pos 2 (by omega), b0]
    rcases hla with rfl | rfl <;> rfl
  have hal : cS (s.at_ + 3) = 8 * (pos + 1) := by rw [xU, ha]; omega
  have n1 : aJ B (cS (s.at_ + 3)) 16 = (X.length : Int) := by rw [hal, AJ (hB.get _) (hB.get _), b1, show pos + 1 + 1 = pos + 2 from rfl, b2]; omega
  have n2 : aJ B (cS (s.at_ + 3) + 16) 16 = 65535 - (X.length : Int) := by rw [hal, show 8 * (pos + 1) + 16 = 8 * (pos + 3) by omega, AJ (hB.get _) (hB.get _), b3, show pos + 3 + 1 = pos + 4 from rfl, b4]; omega
  have hb := yE (B := B) (s := s) (by omega) e1 (by omega) (by rw [n1, n2]; omega)
  have h1 := (sL (B := B) (mo := mo) (s := s) (by omega) hk).trans hb
  rw [n1, e0, hal] at h1
  obtain ⟨s', g, a1, a2, a3, a4, a5⟩ := Hr (mo := mo) hB X (s := { s with at_ := 8 * (pos + 1) + 32, kind := 0, left := ((X.length : Int)).toNat, last := decide (la = 1) }) (pos := pos + 5) rfl hc he (by show ((X.length : Int)).toNat = X.length; omega) (by show 8 * (pos + 1) + 32 = 8 * (pos + 5); omega) (fun i hi => by
    have := hx (5 + i) (by omega)
    rw [show pos + 5 + i = pos + (5 + i) by omega, this]; simp [eY, Nat.add_comm 5 i]) (by omega) hm
  exact ⟨s', (gw.one he h1).trans g, by rw [a1]; omega, a2, a3, a4, a5⟩
def fa : List (List Int) → List Int
  | [] => []
  | [X] => eY 1 X
  | X :: Y :: L => eY 0 X ++ fa (Y :: L)
theorem xo (a b : List Int) (i : Nat) (h : i < a.length) : (a ++ b).getD i 0 = a.getD i 0 := by
  rw [List.getD_eq_getElem?_getD, List.getElem?_append_left h, ← List.getD_eq_getElem?_getD]
theorem cX (a b : List Int) (i : Nat) : (a ++ b).getD (a.length + i) 0 = b.getD i 0 := by
  rw [List.getD_eq_getElem?_getD, List.getElem?_append_right (by omega), Nat.add_sub_cancel_left, ← List.getD_eq_getElem?_getD]
theorem F6 {mo : Int} (hB : an B) : ∀ (L : List (List Int)) {s : St} {pos : Nat}, L ≠ [] → (∀ X ∈ L, X.length ≤ 65535) → s.kind = -1 → s.aw = 0 → s.ended = false → s.at_ = 8 * pos → (∀ i, i < (fa L).length → B.getD (pos + i) 0 = (fa L).getD i 0) → pos + (fa L).length ≤ B.length → (s.out.length : Int) + L.flatten.length ≤ mo →
    ∃ s', gw B mo s s' ∧ s'.at_ = 8 * (pos + (fa L).length) ∧ s'.out = s.out ++ L.flatten ∧ s'.ended = true := by
  intro L
  induction L with
  | nil => intro s pos h; exact (h rfl).elim
  | cons X L ih =>
    intro s pos _ hL hk hc he ha hx hp hm
    cases L with
    | nil =>
      obtain ⟨s', g, a1, a2, a3, a4, a5⟩ := uU (mo := mo) hB (.inr rfl) (hL X (List.mem_cons_self ..)) hk hc he ha hx hp (by simpa using hm)
      exact ⟨s', g, a1, by simpa using a2, a5⟩
    | cons Y L =>
      have hlen : (fa (X :: Y :: L)).length = (eY 0 X).length + (fa (Y :: L)).length := by simp [fa]
      have hfl : (X :: Y :: L).flatten.length = X.length + (Y :: L).flatten.length := by simp
      obtain ⟨s', g, a1, a2, a3, a4, a5⟩ := uU (mo := mo) hB (.inl rfl) (hL X (List.mem_cons_self ..)) hk hc he ha (fun i hi => by rw [hx i (by omega)]; exact xo _ _ _ hi) (by omega) (by omega)
      obtain ⟨s2, g2, c1, c2, c3⟩ := ih (s := s') (pos := pos + (eY 0 X).length) (by simp) (fun Z hZ => hL Z (List.mem_cons_of_mem _ hZ)) a3 a4 (by rw [a5]; rfl) a1 (fun i hi => by
        rw [show pos + (eY 0 X).length + i = pos + ((eY 0 X).length + i) by omega, hx _ (by omega)]; exact cX _ _ _) (by omega) (by rw [a2]; simp only [List.length_append]; omega)
      exact ⟨s2, g.trans g2, by rw [c1, hlen]; omega, by rw [c2, a2]; simp, c3⟩
end
theorem xk {la : Int} {X : List Int} (hla : la = 0 ∨ la = 1) (hX : X.length ≤ 65535) (h : an X) : an (eY la X) := by
  intro x hx
  unfold eY at hx
  rcases List.mem_append.1 hx with hx | hx
  · simp only [List.mem_cons, List.not_mem_nil, or_false] at hx
    rcases hx with rfl | rfl | rfl | rfl | rfl <;> omega
  · exact h x hx
theorem rZ : ∀ (L : List (List Int)), (∀ X ∈ L, X.length ≤ 65535 ∧ an X) → an (fa L)
  | [], _ => fun x hx => by cases hx
  | [X], h => xk (.inr rfl) (h X (List.mem_cons_self ..)).1 (h X (List.mem_cons_self ..)).2
  | X :: Y :: L, h => fun x hx => by
    rcases List.mem_append.1 hx with hx | hx
    · exact xk (.inl rfl) (h X (List.mem_cons_self ..)).1 (h X (List.mem_cons_self ..)).2 x hx
    · exact rZ (Y :: L) (fun Z hZ => h Z (List.mem_cons_of_mem _ hZ)) x hx
theorem Gp {L : List (List Int)} (hne : L ≠ []) (hL : ∀ X ∈ L, X.length ≤ 65535 ∧ an X) {t : List Int} (ht : an t) : iR (fa L ++ t) L.flatten.length (L.flatten, ((fa L).length : Int), 0) ∧ ∀ mo : Int, 0 ≤ mo → mo < L.flatten.length → iR (fa L ++ t) mo ([], 0, 6) := by
  have hB : an (fa L ++ t) := fun x hx => by
    rcases List.mem_append.1 hx with hx | hx
    · exact rZ L hL x hx
    · exact ht x hx
  obtain ⟨s', g, a1, a2, a3⟩ := F6 (mo := L.flatten.length) hB L (s := start) (pos := 0) hne (fun X hX => (hL X hX).1) rfl rfl rfl rfl (fun i hi => by rw [Nat.zero_add]; exact xo _ _ _ hi) (by rw [List.length_append]; omega) (by show ((0 : Nat) : Int) + _ ≤ _; omega)
  have hr : je (fa L ++ t) L.flatten.length start (.ok (L.flatten, (fa L).length)) := by
    have := g _ (.done a3)
    rw [a2, a1, show (8 * (0 + (fa L).length) + 7) / 8 = (fa L).length by omega, show start.out ++ L.flatten = L.flatten from rfl] at this
    exact this
  refine ⟨.inr ⟨by omega, _, hr, rfl⟩, fun mo h0 h1 => ?_⟩
  have hm := (zt (mo' := mo) hB hr (oa (by omega)) _ _ rfl).2.2 (by show ((0 : Nat) : Int) ≤ mo; omega) h1
  exact .inr ⟨h0, _, hm, rfl⟩
def O1 (L : List (List Int)) : Nat → List Int
  | 0 => []
  | i + 1 => O1 L i ++ eY (if i + 1 = L.length then 1 else 0) (L.getD i [])
end Go.ab
namespace Go.ab
open Go.af Go.ae
structure Bk (L : List (List Int)) (i : Nat) : Prop where
  le : i ≤ L.length
  Yi : ∀ j, j < i → (L.getD j []).length ≤ 1000
  o8 : ∀ j, j < i → an (L.getD j [])
  ZD : (L.take i).flatten.length ≤ 1000 * i
  ZC : (O1 L i).length ≤ 1005 * i
end Go.ab
namespace Go.af
structure Po (bs : List Int) (i : Nat) (o : List Int) : Prop where
  len : o.length = (bs.length + 7) / 8
  o8 : an o
  get : ∀ k, k < i → hJ o k = bs.getD k 0
  zero : ∀ k, i ≤ k → hJ o k = 0
end Go.af
namespace Go.ab
open Go.af Go.ae
def fxX (s : Int) : Int := if 280 ≤ s then 192 + s - 280 else if 256 ≤ s then s - 256 else if 144 ≤ s then 400 + s - 144 else 48 + s
def ZN (s : Int) : Nat := if 280 ≤ s then 8 else if 256 ≤ s then 7 else if 144 ≤ s then 9 else 8
structure Pq (bs o : List Int) : Prop where
  o8 : an o
  len : bs.length ≤ 8 * o.length
  get : ∀ i, i < bs.length → hJ o i = bs.getD i 0
section
variable {bs o u w r out : List Int} {mo s y d : Int} {z : St}
structure Rd (o : List Int) (mo : Int) (z : St) (a : Nat) (out : List Int) : Prop where
  Cb : gw o mo start z
  at_ : z.at_ = a
  out : z.out = out
  kind : z.kind = 1
  aw : z.aw = 0
  ended : z.ended = false
  last : z.last = true
  lits : z.lits = fb
  dH : z.dH = kq
def RF (d : Nat) : Nat → List Int → List Int
  | 0, l => l
  | k + 1, l => RF d k (l ++ [l.getD (l.length - d) 0])
def hH (n d : Int) : List Int := wb fb (254 + n) ++ wb kq (d - 1)
end
def Iq (d : Int) : List Int → List Int
  | [] => []
  | m :: l => hH (3 + m % 8) d ++ Iq d l
def Te (d : Int) : List Int → List Int → List Int
  | [], out => out
  | m :: l, out => Te d l (RF d.toNat (3 + m % 8).toNat out)
def Zm (head : List Int) (d : Int) (l : List Int) : List Int := kH 3 3 ++ ae.bits fb head ++ Iq d l
end Go.ab
namespace Go.ab
open Go.af Go.ae
theorem gR {l : List Int} {i : Nat} (h : i < l.length) : l.take (i + 1) = l.take i ++ [l.getD i 0] := by
  rw [List.take_succ_eq_append_getElem h]
  simp [List.getD_eq_getElem?_getD, h]
def B01 (l : List Int) : Prop := ∀ x ∈ l, 0 ≤ x ∧ x ≤ 1
end Go.ab
namespace Go.ab
open Go.af Go.ae
end Go.ab
namespace Go.aH
open Go.af Go.ae Go.ab
def x3 (x y z : Int) : Int := IntKind.u32.wrap ((BitVec.ofInt IntKind.u32.bits (IntKind.u32.wrap ((BitVec.ofInt IntKind.u32.bits (IntKind.u32.wrap (x * 2 ^ (min (16 : Int).toNat IntKind.u32.bits))) ||| BitVec.ofInt IntKind.u32.bits (IntKind.u32.wrap (y * 2 ^ (min (8 : Int).toNat IntKind.u32.bits)))).toNat : Int)) ||| BitVec.ofInt IntKind.u32.bits z).toNat : Int)
def mK (x y z : Int) : Int := (IntKind.u32.wrap (x3 x y z * 2654435761)).fdiv (2 ^ (min (19 : Int).toNat IntKind.u32.bits))
def hs (B : List Int) (a : Nat) : Int := mK (B.getD a 0) (B.getD (a + 1) 0) (B.getD (a + 2) 0)
structure Fd where
  hd : List Int
  nx : List Int
def OG (B : List Int) (f : Fd) (a : Nat) : Fd := if B.length < a + 3 then f else ⟨f.hd.set (hs B a).toNat (a : Int), f.nx.set a (f.hd.getD (hs B a).toNat 0)⟩
def BE (B : List Int) (f : Fd) (a : Nat) : Nat → Fd
  | 0 => f
  | k + 1 => OG B (BE B f a k) (a + k)
def Cf (B : List Int) (old a : Nat) : Nat → Nat → Nat
  | 0, n => n
  | f + 1, n => if a + n < B.length ∧ B.getD (old + n) 0 = B.getD (a + n) 0 then Cf B old a f (n + 1) else n
def VN (B : List Int) (old a : Nat) : Nat := Cf B old a 258 0
def sU (B nx : List Int) (a : Nat) : Nat → Int → Int → Int → Int × Int
  | 0, _, n, bA => (n, bA)
  | t + 1, old, n, bA => if old = -1 ∨ 32768 < (a : Int) - old then (n, bA) else
    if n < (VN B old.toNat a : Int) then sU B nx a t (nx.getD old.toNat 0) (VN B old.toNat a) ((a : Int) - old) else sU B nx a t (nx.getD old.toNat 0) n bA
def qv (B : List Int) (f : Fd) (a : Nat) : Int × Int := if B.length < a + 3 then (0, 0) else sU B f.nx a 24 (f.hd.getD (hs B a).toNat 0) 0 0
structure c5 where
  lit : Int
  n : Int
  bA : Int
def vT (B : List Int) : Nat → Fd → Nat → List c5
  | 0, _, _ => []
  | q + 1, f, a => if a < B.length then
      (if (qv B f a).1 < 3 then ⟨B.getD a 0, 0, 0⟩ :: vT B q (BE B f a 1) (a + 1)
       else ⟨0, (qv B f a).1, (qv B f a).2⟩ :: vT B q (BE B f a (qv B f a).1.toNat) (a + (qv B f a).1.toNat)) else []
def Zh (B : List Int) : Fd := ⟨List.replicate 8192 (-1), List.replicate B.length 0⟩
def uq (B : List Int) : List c5 := vT B B.length (Zh B) 0
structure Alk (B : List Int) (old a n : Nat) : Prop where
  le : n ≤ 258
  room : a + n ≤ B.length ∨ n = 0
  same : ∀ i, i < n → B.getD (old + i) 0 = B.getD (a + i) 0
structure Fok (B : List Int) (n : Nat) (f : Fd) : Prop where
  hl : f.hd.length = 8192
  nl : f.nx.length = B.length
  h : ∀ i, i < 8192 → -1 ≤ f.hd.getD i 0 ∧ f.hd.getD i 0 < n
  x : ∀ i, i < B.length → -1 ≤ f.nx.getD i 0 ∧ (f.nx.getD i 0 < n ∨ f.nx.getD i 0 = 0)
structure Fs (B : List Int) (a : Nat) (r : Int × Int) : Prop where
  Y7 : (r.1 = 0 ∧ r.2 = 0) ∨ (1 ≤ r.1 ∧ r.1 ≤ 258 ∧ 1 ≤ r.2 ∧ r.2 ≤ 32768 ∧ r.2 ≤ a ∧ a + r.1.toNat ≤ B.length ∧ ∀ i, i < r.1.toNat → B.getD (a - r.2.toNat + i) 0 = B.getD (a + i) 0)
def Y9 : List c5 → List Int → List Int
  | [], o => o
  | t :: l, o => Y9 l (if t.n = 0 then o ++ [t.lit] else RF t.bA.toNat t.n.toNat o)
structure sg (t : c5) : Prop where
  Y7 : (t.n = 0 ∧ t.bA = 0 ∧ 0 ≤ t.lit ∧ t.lit < 256) ∨ (t.lit = 0 ∧ 3 ≤ t.n ∧ t.n ≤ 258 ∧ 1 ≤ t.bA ∧ t.bA ≤ 32768)
inductive sv (B : List Int) : Nat → List c5 → Prop
  | nil : sv B B.length []
  | lit {a : Nat} {l : List c5} : a < B.length → sv B (a + 1) l → sv B a (⟨B.getD a 0, 0, 0⟩ :: l)
  | cp {a n d : Nat} {l : List c5} : 3 ≤ n → n ≤ 258 → 1 ≤ d → d ≤ 32768 → d ≤ a → a + n ≤ B.length → (∀ i, i < n → B.getD (a - d + i) 0 = B.getD (a + i) 0) → sv B (a + n) l → sv B a (⟨0, n, d⟩ :: l)
section
variable {B nx : List Int} {a k o : Nat} {old n bA : Int}
end
end Go.aH
namespace Go.aH
open Go.af Go.ae Go.ab
def By (lim x : Int) : Nat → Nat → Nat
  | 0, m => m
  | f + 1, m => if lim ≤ x / 2 ^ m then By lim x f (m + 1) else m
def sC (lim x : Int) : Nat := By lim x 16 0
def uy (n : Int) : Int := if n - 3 = 255 then 285 else if n - 3 < 8 then 257 + (n - 3) else 257 + 4 * (sC 8 (n - 3) : Int) + (n - 3) / 2 ^ sC 8 (n - 3)
def Gj (n : Int) : Nat := if n - 3 = 255 then 0 else if n - 3 < 8 then 0 else sC 8 (n - 3)
def FT (n : Int) : Int := if n - 3 = 255 then 0 else if n - 3 < 8 then 0 else (n - 3) % 2 ^ sC 8 (n - 3)
def ur (f : Int) : Int := if f - 1 < 4 then f - 1 else 2 * (sC 4 (f - 1) : Int) + (f - 1) / 2 ^ sC 4 (f - 1)
def Gq (f : Int) : Nat := if f - 1 < 4 then 0 else sC 4 (f - 1)
def GV (f : Int) : Int := if f - 1 < 4 then 0 else (f - 1) % 2 ^ sC 4 (f - 1)
structure Mr (lim x : Int) (m : Nat) : Prop where
  lt : x / 2 ^ m < lim
  ge : m = 0 ∨ lim ≤ x / 2 ^ (m - 1)
  le : m ≤ 13
def tN (ls ds : List Int) (t : c5) : List Int := if t.n = 0 then wb ls t.lit else wb ls (uy t.n) ++ kH (FT t.n) (Gj t.n) ++ wb ds (ur t.bA) ++ kH (GV t.bA) (Gq t.bA)
def qD (ls ds : List Int) (l : List c5) : List Int := l.flatMap (tN ls ds)
structure Fits (ls ds : List Int) (l : List c5) : Prop where
  ok : ∀ t ∈ l, sg t
  lit : ∀ t ∈ l, t.n = 0 → t.lit < ls.length ∧ nD ls t.lit = true
  cp : ∀ t ∈ l, t.n ≠ 0 → uy t.n < ls.length ∧ nD ls (uy t.n) = true ∧ ur t.bA < ds.length ∧ nD ds (ur t.bA) = true
  end_ : (256 : Int) < ls.length ∧ nD ls 256 = true
end Go.aH
namespace Go.kC
abbrev Pk := Int × List Int
def U3 : List Pk → List Pk
  | a :: b :: l => (a.1 + b.1, a.2 ++ b.2) :: U3 l
  | _ => []
def sy (l : List Pk) (m : Nat) : List Int := (l.take m).flatMap (·.2)
def Nv : List Pk → List Pk → List Pk
  | [], P => P
  | A, [] => A
  | a :: A, b :: P => if a.1 ≤ b.1 then a :: Nv A (b :: P) else b :: Nv (a :: A) P
termination_by A P => A.length + P.length
abbrev o6 (l : List Pk) : Prop := l.Pairwise (fun x y => x.1 ≤ y.1)
structure SS (l l' : List Pk) : Prop where
  XZ : o6 l'
  Zy : ∀ c, l'.filter (fun x => decide (x.1 = c)) = l.filter (fun x => decide (x.1 = c))
end Go.kC
namespace Go.kC
def lv (A : List Pk) : Nat → List Pk
  | 0 => []
  | j + 1 => Nv A (U3 (lv A j))
def sm (A : List Pk) (i : Nat) : Int := (A.getD i (0, [])).2.headD 0
structure Lf (A : List Pk) : Prop where
  XZ : o6 A
  one : ∀ i, i < A.length → (A.getD i (0, [])).2 = [sm A i]
  inj : ∀ i j, i < A.length → j < A.length → sm A i = sm A j → i = j
  pos : ∀ x ∈ A, 0 < x.1
def Hv (A : List Pk) (e : Pk) : Prop := 0 ≤ e.1 ∧ ∀ i, i < A.length → sm A i ∈ e.2 → (A.getD i (0, [])).1 ≤ e.1
def ct (A : List Pk) (j m i : Nat) : Nat := (sy (lv A j) m).count (sm A i)
def Yw (f : Nat → Nat) : Nat → Nat
  | 0 => 0
  | n + 1 => Yw f n + f n
end Go.kC
namespace Go.kC
open Go.ae
def OV (s : Nat → Int) (v : Nat → Int) (base : List Int) : Nat → List Int
  | 0 => base
  | k + 1 => (OV s v base k).set (s k).toNat (v k)
def cs (A : List Pk) (bV : Nat) : List Int := (List.range A.length).map (fun i => (ct A bV (2 * A.length - 2) i : Int))
structure Ln (A : List Pk) (bV : Nat) (vs : List Int) : Prop where
  perm : vs.Perm (cs A bV)
  down : vs.Pairwise (fun x y => y ≤ x)
def out (A : List Pk) (vs : List Int) (L : Nat) : List Int := OV (sm A) (fun i => vs.getD i 0) (List.replicate L 0) A.length
structure Good (A : List Pk) (bV L : Nat) (o : List Int) : Prop where
  len : o.length = L
  leaf : ∀ i, i < A.length → 1 ≤ o.getD (sm A i).toNat 0 ∧ o.getD (sm A i).toNat 0 ≤ bV
  rest : ∀ x, (∀ i, i < A.length → (sm A i).toNat ≠ x) → o.getD x 0 = 0
  down : ∀ i j, i ≤ j → j < A.length → o.getD (sm A j).toNat 0 ≤ o.getD (sm A i).toNat 0
  code : bb o = 0
end Go.kC
namespace Go.kC
open Go.ae
def O5 (fr : List Int) (k : Nat) : List Pk := ((List.range k).filter (fun i => decide (0 < fr.getD i 0))).map (fun i : Nat => (fr.getD i 0, [(i : Int)]))
def cO (L : Nat) (X : List Int) : List Int := (List.range L).map (fun k : Nat => (X.count (k : Int) : Int))
structure SR (fr : List Int) (bV : Nat) (o : List Int) : Prop where
  len : o.length = fr.length
  code : bb o = 0
  pos : ∀ i, i < fr.length → 0 < fr.getD i 0 → 1 ≤ o.getD i 0 ∧ o.getD i 0 ≤ bV
  zero : ∀ i, i < fr.length → ¬ 0 < fr.getD i 0 → o.getD i 0 = 0
  one : (O5 fr fr.length).length = 1 → ∀ i, o.getD i 0 ≤ 1
  down : ∀ i k, i < fr.length → k < fr.length → fr.getD k 0 < fr.getD i 0 → 0 < fr.getD k 0 → o.getD i 0 ≤ o.getD k 0
end Go.kC
namespace Go.kC
open Go.ae
def N5 (x : Pk) : List Pk → List Pk
  | [] => [x]
  | y :: ys => if x.1 ≤ y.1 then x :: y :: ys else y :: N5 x ys
def Hq : List Pk → List Pk
  | [] => []
  | x :: xs => N5 x (Hq xs)
def uz (fr : List Int) (bV : Nat) : List Int :=
  match O5 fr fr.length with
  | [] => List.replicate fr.length 0
  | [x] => (List.replicate fr.length 0).set (x.2.headD 0).toNat 1
  | l => out (Hq l) ((cs (Hq l) bV).mergeSort fun x y => decide (x ≤ y)).reverse fr.length
structure Zr (fr : List Int) (bV : Nat) (o : List Int) : Prop extends SR fr bV o where
  Em : o = uz fr bV
end Go.kC
namespace Go.aH
open Go.af Go.ae Go.ab
def HA (fr : List Int) : Nat → Int
  | 0 => 0
  | k + 1 => if HA fr k < fr.getD k 0 then fr.getD k 0 else HA fr k
def Na (x : Int) : Nat → Nat → Nat
  | 0, m => m
  | f + 1, m => if 1048576 < x / 2 ^ m then Na x f (m + 1) else m
def dn (fr : List Int) : Nat := Na (HA fr fr.length) 16 0
def rr (d : Nat) (x : Int) : Int := if 0 < x then (if 1 < x / 2 ^ d then x / 2 ^ d else 1) else x
def Hf (fr : List Int) (d : Nat) : Nat → List Int
  | 0 => fr
  | k + 1 => (Hf fr d k).set k (rr d (fr.getD k 0))
def w8 (fr : List Int) : List Int := Hf fr (dn fr) fr.length
def yR (l : List Int) (s : Int) : List Int := l.set s.toNat (l.getD s.toNat 0 + 1)
def Xm (t : c5) : Int := if t.n = 0 then t.lit else uy t.n
def xG : List c5 → List Int → List Int
  | [], a => a
  | t :: l, a => xG l (yR a (Xm t))
def Gu : List c5 → List Int → List Int
  | [], b => b
  | t :: l, b => Gu l (if t.n = 0 then b else yR b (ur t.bA))
def VY : List Int := (List.replicate 286 0).set 256 1
def Wl : List Int := List.replicate 30 0
def fA (l : List c5) : List Int := w8 (xG l VY)
def fB (l : List c5) : List Int := w8 (Gu l Wl)
end Go.aH
namespace Go.aH
open Go.af Go.ae Go.ab
def ie : Nat → List Int → List (List Int)
  | 0, Z => [Z]
  | f + 1, Z => if Z.length ≤ 65535 then [Z] else Z.take 65535 :: ie f (Z.drop 65535)
theorem wv : ∀ (f : Nat) (Z : List Int), ∃ X L, ie f Z = X :: L
  | 0, Z => ⟨Z, [], rfl⟩
  | f + 1, Z => by
    unfold ie
    split
    · exact ⟨_, _, rfl⟩
    · exact ⟨_, _, rfl⟩
theorem rm {Z : List Int} (h : Z.length ≤ 65535) : ∀ f, ie f Z = [Z]
  | 0 => rfl
  | f + 1 => if_pos h
theorem rP {Z : List Int} (h : 65535 < Z.length) (f : Nat) : fa (ie (f + 1) Z) = eY 0 (Z.take 65535) ++ fa (ie f (Z.drop 65535)) := by
  have h0 : ie (f + 1) Z = Z.take 65535 :: ie f (Z.drop 65535) := if_neg (by omega)
  rw [h0]
  obtain ⟨X, L, e⟩ := wv f (Z.drop 65535)
  rw [e]; rfl
theorem sb : ∀ (f : Nat) (Z : List Int), (ie f Z).flatten = Z
  | 0, Z => by simp [ie]
  | f + 1, Z => by
    unfold ie
    split
    · simp
    · rw [List.flatten_cons, sb f, List.take_append_drop]
theorem oI : ∀ (f : Nat) (Z : List Int), Z.length ≤ 65535 * (f + 1) → ∀ X ∈ ie f Z, X.length ≤ 65535
  | 0, Z, h, X, hX => by simp only [ie, List.mem_singleton] at hX; subst hX; omega
  | f + 1, Z, h, X, hX => by
    unfold ie at hX
    split at hX
    · rw [List.mem_singleton.1 hX]; assumption
    · rcases List.mem_cons.1 hX with rfl | hX
      · rw [List.length_take]; omega
      · exact oI f _ (by rw [List.length_drop]; omega) X hX
theorem Lt : ∀ (f : Nat) (Z : List Int), Z.length ≤ 65535 * (f + 1) → (fa (ie f Z)).length ≤ Z.length + 5 * (Z.length / 65535 + 1)
  | 0, Z, h => by show (eY 1 Z).length ≤ _; rw [j8]; omega
  | f + 1, Z, h => by
    rcases Nat.lt_or_ge 65535 Z.length with h1 | h1
    · have ih := Lt f (Z.drop 65535) (by rw [List.length_drop]; omega)
      rw [rP h1, List.length_append, j8, List.length_take]
      rw [List.length_drop] at ih
      omega
    · rw [rm h1]; show (eY 1 Z).length ≤ _; rw [j8]; omega
theorem wM : ∀ (f : Nat) (Z : List Int), Z.length ≤ 65535 * (f + 1) → (fa (ie f Z)).length = Z.length + 5 * ((Z.length - 1) / 65535 + 1)
  | 0, Z, h => by show (eY 1 Z).length = _; rw [j8]; omega
  | f + 1, Z, h => by
    rcases Nat.lt_or_ge 65535 Z.length with h1 | h1
    · have ih := wM f (Z.drop 65535) (by rw [List.length_drop]; omega)
      rw [rP h1, List.length_append, j8, List.length_take]
      rw [List.length_drop] at ih
      omega
    · rw [rm h1]; show (eY 1 Z).length = _; rw [j8]; omega
def gI (B : List Int) : List Int := fa (ie 64 B)
theorem Ol (B : List Int) : [] ++ fa (ie 64 B) = gI B := rfl
theorem Fz {O Z B : List Int} {f : Nat} (h : O ++ fa (ie f Z) = gI B) (hZ : Z.length ≤ 65535) : O ++ [1, (Z.length : Int) % 256, (Z.length : Int) / 256, 255 - (Z.length : Int) % 256, 255 - (Z.length : Int) / 256] ++ Z = gI B := by
  rw [← h, rm hZ, List.append_assoc]; rfl
theorem GA {O Z B : List Int} {f : Nat} (h : O ++ fa (ie (f + 1) Z) = gI B) (hZ : 65535 < Z.length) : O ++ [0, (65535 : Int) % 256, (65535 : Int) / 256, 255 - (65535 : Int) % 256, 255 - (65535 : Int) / 256] ++ Z.take 65535 ++ fa (ie f (Z.drop 65535)) = gI B := by
  rw [← h, rP hZ]
  have : (Z.take 65535).length = 65535 := by rw [List.length_take]; omega
  unfold eY
  rw [this]
  simp only [List.append_assoc]
  rfl
theorem ue {B : List Int} (h : B.length ≤ 4194304) : (gI B).length = B.length + 5 * ((B.length - 1) / 65535 + 1) := wM 64 B (by omega)
theorem JK {B t : List Int} (h : B.length ≤ 4194304) (hB : an B) (ht : an t) : iR (gI B ++ t) B.length (B, ((gI B).length : Int), 0) ∧ ∀ mo : Int, 0 ≤ mo → mo < B.length → iR (gI B ++ t) mo ([], 0, 6) := by
  obtain ⟨X, L, e⟩ := wv 64 B
  have h1 := Gp (L := ie 64 B) (by rw [e]; simp) (fun X hX => ⟨oI 64 B (by omega) X hX, fun x hx => hB x (by
    have := sb 64 B
    rw [← this]; exact List.mem_flatten.2 ⟨X, hX, hx⟩)⟩) ht
  rw [sb] at h1
  exact h1
end Go.aH
namespace Go.kC
open Go.ae
end Go.kC
namespace Go.aH
open Go.af Go.ae Go.ab
def nB (bs : List Int) (a : Nat) : Nat → Int
  | 0 => 0
  | n + 1 => nB bs a n + bs.getD (a + n) 0 * 2 ^ n
def jO (bs : List Int) : List Int := (List.range ((bs.length + 7) / 8)).map fun j => nB bs (8 * j) 8
def Za (l : List c5) : List Int := kH 1 1 ++ kH 1 2 ++ (qD fb kq l ++ wb fb 256)
def RM (l : List c5) : List Int := jO (Za l)
def dA (l : List c5) : List Int := kC.uz (fA l) 15
def dB (l : List c5) : List Int := kC.uz (fB l) 15
def F1 : List Int → List Int → List Int
  | [], f => f
  | n :: l, f => F1 l (yR f n)
def GD (l : List c5) : List Int := dA l ++ dB l
def UH : List Int := List.replicate 19 0
def Ur (l : List c5) : List Int := F1 (GD l) UH
def dF (l : List c5) : List Int := kC.uz (Ur l) 7
def cJ (f : List Int) (k : Nat) : List Int := (lq.take k).flatMap fun i => kH (f.getD i.toNat 0) 3
def Wy : List Int := kH 1 1 ++ kH 2 2 ++ kH 29 5 ++ kH 29 5 ++ kH 15 4
def YD (l : List c5) : List Int := Wy ++ cJ (dF l) 19 ++ ae.bits (dF l) (GD l) ++ (qD (dA l) (dB l) l ++ wb (dA l) 256)
def Pt (l : List c5) : List Int := jO (YD l)
end Go.aH
namespace Go.aH
open Go.af Go.ae Go.ab
def UX {α : Type} (a b c : α) : Nat → α
  | 0 => a
  | 1 => b
  | _ => c
def bi (n : Nat → Nat) : Nat → Nat
  | 0 => 0
  | k + 1 => if n (k + 1) < n (bi n k) then k + 1 else bi n k
def sN (B : List Int) : Nat → Nat := UX (gI B).length (RM (uq B)).length (Pt (uq B)).length
def mW (B : List Int) : List Int := UX (gI B) (RM (uq B)) (Pt (uq B)) (bi (sN B) 2)
end Go.aH
namespace Go.aH
open Go.af Go.ae Go.ab
end Go.aH
namespace Go.aH
open Go.af Go.ae Go.ab
def EL (n : Int) : Int := if n < 0 then 0 else n
def bV (n : Int) : Int := if 0 < EL n % 65535 then EL n + 5 * (EL n / 65535 + 1) + 5 else EL n + 5 * (EL n / 65535) + 5
end Go.aH
namespace Go.aH
open Go.af Go.ae Go.ab
structure Rq (ls ds o : List Int) (mo : Int) (z : St) (a : Nat) (out : List Int) : Prop where
  Cb : gw o mo ab.start z
  at_ : z.at_ = a
  out : z.out = out
  k1 : ¬ z.kind = -1
  k2 : ¬ z.kind = 0
  aw : z.aw = 0
  ended : z.ended = false
  last : z.last = true
  lits : z.lits = ls
  dH : z.dH = ds
section
variable {ls ds bs o u r out : List Int} {mo y : Int} {z : St} {t : c5}
end
end Go.aH
namespace Go.aH
open Go.af Go.ae Go.ab
end Go.aH
namespace Go.aH
open Go.af Go.ae Go.ab
section
variable {B : List Int} {b : Int}
def Cst (B : List Int) (b : Int) : Prop := ∀ i, i < B.length → B.getD i 0 = b
end
end Go.aH
namespace Go.aH
open Go.af Go.ae Go.ab
def Z5 (x : Int) : Int := IntKind.u32.wrap (IntKind.u32.wrap (x * 1664525) + 1013904223)
def nzV (x : Int) : Int := IntKind.u8.wrap (x.fdiv (2 ^ (min (24 : Int).toNat IntKind.u32.bits)))
structure Gd (B : List Int) : Prop where
  zb : (mW B).length ≤ 30000000
  o8 : an (mW B)
  res : iR (mW B) (B.length : Int) (B, ((mW B).length : Int), 0)
  bV : ((mW B).length : Int) ≤ (B.length : Int) + 5 * (((B.length : Int) + 65534) / 65535) + 5
theorem an.snoc {l : List Int} {y : Int} (h : an l) (hy : 0 ≤ y ∧ y < 256) : an (l ++ [y]) := fun x hx => by
  rcases List.mem_append.1 hx with hx | hx
  · exact h x hx
  · rw [List.mem_singleton.1 hx]; exact hy
end Go.aH
namespace Go.aH
open Go.af
theorem an.app {a b : List Int} (h : an a) (k : an b) : an (a ++ b) := fun x hx => by
  rcases List.mem_append.1 hx with hx | hx
  · exact h x hx
  · exact k x hx
end Go.aH
namespace Go.aH
open Go.af Go.ab
theorem gj : an [] := fun x hx => by cases hx
end Go.aH
namespace Go.aH
end Go.aH
namespace Go.aG
open Go.af Go.ab
theorem ry {x : Int} (h : 0 ≤ x ∧ x < 256) : ∃ k : Fin 256, x = ((k.val : Nat) : Int) := ⟨⟨x.toNat, by omega⟩, by simp only; omega⟩
theorem CY : ∀ k : Fin 256, IntKind.i64.wrap ((BitVec.ofInt IntKind.i64.bits ((k.val : Nat) : Int) &&& BitVec.ofInt IntKind.i64.bits 15).toNat : Int) = ((k.val : Nat) : Int) % 16 := by decide +kernel
theorem Dm : ∀ k : Fin 256, IntKind.i64.wrap ((BitVec.ofInt IntKind.i64.bits ((k.val : Nat) : Int) &&& BitVec.ofInt IntKind.i64.bits 32).toNat : Int) = 32 * (((k.val : Nat) : Int) / 32 % 2) := by decide +kernel
theorem Tl {x : Int} (h : 0 ≤ x ∧ x < 256) : IntKind.i64.wrap ((BitVec.ofInt IntKind.i64.bits x &&& BitVec.ofInt IntKind.i64.bits 15).toNat : Int) = x % 16 := by obtain ⟨k, rfl⟩ := ry h; exact CY k
theorem BM {x : Int} (h : 0 ≤ x ∧ x < 256) : IntKind.i64.wrap ((BitVec.ofInt IntKind.i64.bits x &&& BitVec.ofInt IntKind.i64.bits 32).toNat : Int) = 32 * (x / 32 % 2) := by obtain ⟨k, rfl⟩ := ry h; exact Dm k
theorem Yr {x : Int} (h : 0 ≤ x) : x.fdiv (2 ^ (min (4 : Int).toNat IntKind.i64.bits)) = x / 16 := by rw [Int.fdiv_eq_ediv_of_nonneg _ (by decide)]; rfl
theorem CN {a b n : Nat} (hb : b < 2 ^ n) : (a * 2 ^ n) ||| b = a * 2 ^ n + b := by
  have := Nat.shiftLeft_add_eq_or_of_lt hb a
  rw [Nat.shiftLeft_eq] at this
  exact this.symm
theorem wrap32 {n : Int} (h1 : 0 ≤ n) (h2 : n < 4294967296) : IntKind.u32.wrap n = n := by
  have e : IntKind.u32.wrap n = n % 4294967296 := rfl
  rw [e]; omega
theorem wrap64 {n : Int} (h1 : 0 ≤ n) (h2 : n < 4294967296) : IntKind.i64.wrap n = n := Go.Sl.fi (by omega) (by omega)
theorem Xy {x y u : Int} {n : Nat} (hx : x = u * 2 ^ n) (hu : 0 ≤ u) (hy : 0 ≤ y ∧ y < 2 ^ n) (h : x + y < 4294967296) : IntKind.u32.wrap ((BitVec.ofInt IntKind.u32.bits x ||| BitVec.ofInt IntKind.u32.bits y).toNat : Int) = x + y := by
  obtain ⟨a, rfl⟩ : ∃ a : Nat, u = (a : Int) := ⟨u.toNat, by omega⟩
  obtain ⟨b, rfl⟩ : ∃ b : Nat, y = (b : Int) := ⟨y.toNat, by omega⟩
  have e : IntKind.u32.bits = 32 := rfl
  have hb : b < 2 ^ n := by have := hy.2; exact_mod_cast this
  have hx2 : x = ((a * 2 ^ n : Nat) : Int) := by rw [hx]; push_cast; rfl
  subst hx2
  rw [e, BitVec.toNat_or, cy, cy, Nat.mod_eq_of_lt (by omega), Nat.mod_eq_of_lt (by omega), CN hb, wrap32 (by omega) (by omega)]
  omega
theorem uI {x y u : Int} {n : Nat} (hx : x = u * 2 ^ n) (hu : 0 ≤ u) (hy : 0 ≤ y ∧ y < 2 ^ n) (h : x + y < 4294967296) : IntKind.i64.wrap ((BitVec.ofInt IntKind.i64.bits x ||| BitVec.ofInt IntKind.i64.bits y).toNat : Int) = x + y := by
  obtain ⟨a, rfl⟩ : ∃ a : Nat, u = (a : Int) := ⟨u.toNat, by omega⟩
  obtain ⟨b, rfl⟩ : ∃ b : Nat, y = (b : Int) := ⟨y.toNat, by omega⟩
  have e : IntKind.i64.bits = 64 := rfl
  have hb : b < 2 ^ n := by have := hy.2; exact_mod_cast this
  have hx2 : x = ((a * 2 ^ n : Nat) : Int) := by rw [hx]; push_cast; rfl
  subst hx2
  rw [e, BitVec.toNat_or, cy, cy, Nat.mod_eq_of_lt (by omega), Nat.mod_eq_of_lt (by omega), CN hb, wrap64 (by omega) (by omega)]
  omega
theorem FL {x r : Int} {n : Nat} {d : Int} (hd : d = (n : Int)) (hn : n ≤ 32) (hr : r = x * 2 ^ n) (h0 : 0 ≤ r) (h1 : r < 4294967296) : IntKind.i64.wrap (x * 2 ^ (min d.toNat IntKind.i64.bits)) = r := by
  have e : min d.toNat IntKind.i64.bits = n := by
    have : IntKind.i64.bits = 64 := rfl
    omega
  rw [e, ← hr]; exact wrap64 h0 h1
theorem Xn {x r : Int} {n : Nat} {d : Int} (hd : d = (n : Int)) (hn : n ≤ 32) (hr : r = x * 2 ^ n) (h0 : 0 ≤ r) (h1 : r < 4294967296) : IntKind.u32.wrap (x * 2 ^ (min d.toNat IntKind.u32.bits)) = r := by
  have e : min d.toNat IntKind.u32.bits = n := by
    have : IntKind.u32.bits = 32 := rfl
    omega
  rw [e, ← hr]; exact wrap32 h0 h1
theorem BC {x : Int} {n : Nat} {d : Int} (hd : d = (n : Int)) (hn : n ≤ 32) : x.fdiv (2 ^ (min d.toNat IntKind.u32.bits)) = x / 2 ^ n := by
  have e : min d.toNat IntKind.u32.bits = n := by
    have : IntKind.u32.bits = 32 := rfl
    omega
  rw [e, Int.fdiv_eq_ediv_of_nonneg _ (Int.le_of_lt (Int.pow_pos (by decide)))]
def ou (s : Int × Int) (c : Int) : Int × Int := ((s.1 + c) % 65521, (s.2 + (s.1 + c) % 65521) % 65521)
def eV (l : List Int) : Int × Int := l.foldl ou (1, 0)
theorem qm : eV [] = (1, 0) := rfl
theorem F9 (l : List Int) (c : Int) : eV (l ++ [c]) = ou (eV l) c := by simp [eV]
theorem n6 {l : List Int} {i : Nat} (h : i < l.length) : eV (l.take (i + 1)) = ou (eV (l.take i)) (l.getD i 0) := by rw [ab.gR h, F9]
theorem Pm (s : Int × Int) (c : Int) : (0 ≤ (ou s c).1 ∧ (ou s c).1 < 65521) ∧ 0 ≤ (ou s c).2 ∧ (ou s c).2 < 65521 := by unfold ou; simp only; omega
theorem JG (l : List Int) : ∀ s : Int × Int, ((0 ≤ s.1 ∧ s.1 < 65521) ∧ 0 ≤ s.2 ∧ s.2 < 65521) → (0 ≤ (l.foldl ou s).1 ∧ (l.foldl ou s).1 < 65521) ∧ 0 ≤ (l.foldl ou s).2 ∧ (l.foldl ou s).2 < 65521 := by
  induction l with
  | nil => exact fun s h => h
  | cons a l ih => exact fun s h => ih _ (Pm s a)
theorem oF (l : List Int) : (0 ≤ (eV l).1 ∧ (eV l).1 < 65521) ∧ 0 ≤ (eV l).2 ∧ (eV l).2 < 65521 := JG l _ (by decide)
def fk (l : List Int) : Int := (eV l).2 * 65536 + (eV l).1
theorem yC (l : List Int) : 0 ≤ fk l ∧ fk l < 4294967296 := by have := oF l; unfold fk; omega
def jV (l : List Int) : List Int := [fk l / 16777216, fk l / 65536 % 256, fk l / 256 % 256, fk l % 256]
theorem uL (l : List Int) : (jV l).length = 4 := rfl
theorem qO (l : List Int) : an (jV l) := fun x hx => by
  have := yC l
  simp only [jV, List.mem_cons, List.not_mem_nil, or_false] at hx
  rcases hx with rfl | rfl | rfl | rfl <;> omega
def cZ (l : List Int) : Int := l.getD 0 0 * 16777216 + l.getD 1 0 * 65536 + l.getD 2 0 * 256 + l.getD 3 0
def Hd (a b : Int) : Prop := a % 16 = 8 ∧ a / 16 ≤ 7 ∧ (a * 256 + b) % 31 = 0 ∧ 32 * (b / 32 % 2) = 0
instance (a b : Int) : Decidable (Hd a b) := by unfold Hd; infer_instance
theorem S0 (a b : Int) : ¬ a % 16 = 8 ∨ (a % 16 = 8 ∧ ¬ a / 16 ≤ 7) ∨ (a % 16 = 8 ∧ a / 16 ≤ 7 ∧ ¬ (a * 256 + b) % 31 = 0) ∨ (a % 16 = 8 ∧ a / 16 ≤ 7 ∧ (a * 256 + b) % 31 = 0 ∧ ¬ 32 * (b / 32 % 2) = 0) ∨ (a % 16 = 8 ∧ a / 16 ≤ 7 ∧ (a * 256 + b) % 31 = 0 ∧ 32 * (b / 32 % 2) = 0) := by omega
def fin (D : List Int) (r : List Int × Int × Int) : List Int × Int :=
  if ¬ r.2.2 = 0 then ([], r.2.2) else if D.length - r.2.1.toNat < 4 then ([], 2) else if 4 < D.length - r.2.1.toNat then ([], 4) else if D.drop r.2.1.toNat = jV r.1 then (r.1, 0) else ([], 5)
def lR (B : List Int) (mo : Int) (q : List Int × Int) : Prop :=
  (B.length < 6 ∧ q = ([], 2)) ∨ (6 ≤ B.length ∧ ¬ Hd (B.getD 0 0) (B.getD 1 0) ∧ q = ([], 4)) ∨ (6 ≤ B.length ∧ Hd (B.getD 0 0) (B.getD 1 0) ∧ ∃ r, iR (B.drop 2) mo r ∧ q = fin (B.drop 2) r)
theorem dQ {B : List Int} (h : an B) (n : Nat) : an (B.drop n) := fun x hx => h x (List.mem_of_mem_drop hx)
theorem Pn {B : List Int} {mo : Int} (hB : an B) {q : List Int × Int × Int} (h : iR B mo q) : an q.1 ∧ 0 ≤ q.2.1 ∧ q.2.1 ≤ B.length ∧ (q.1 = [] ∨ (q.1.length : Int) ≤ mo) := by
  rcases h with ⟨_, rfl⟩ | ⟨h0, o, ho, rfl⟩
  · exact ⟨fun x hx => by (cases hx), by decide, by simp, .inl rfl⟩
  · cases o with
    | error e => exact ⟨fun x hx => by (cases hx), by simp [Ou], by simp [Ou], .inl rfl⟩
    | ok p =>
      obtain ⟨x, n⟩ := p
      obtain ⟨h1, h2, h3⟩ := Ez hB ho (oa (by omega)) x n rfl
      exact ⟨h3, by simp [Ou], by simp only [Ou]; omega, .inr h1⟩
end Go.aG
namespace Go.aG
open Go.af Go.ab Go.aH
theorem lR.ways {B : List Int} {mo : Int} {q : List Int × Int} (hB : an B) (hm : mo < 500000000) (h : lR B mo q) :
    (B.length < 6 ∧ q = ([], 2)) ∨ (6 ≤ B.length ∧ ¬ Hd (B.getD 0 0) (B.getD 1 0) ∧ q = ([], 4)) ∨
    (∃ e, 6 ≤ B.length ∧ Hd (B.getD 0 0) (B.getD 1 0) ∧ iR (B.drop 2) mo ([], ((0 : Nat) : Int), e) ∧ ¬ e = 0 ∧ q = ([], e)) ∨
    (∃ (x : List Int) (n : Nat), 6 ≤ B.length ∧ Hd (B.getD 0 0) (B.getD 1 0) ∧ iR (B.drop 2) mo (x, (n : Int), 0) ∧ an x ∧ x.length < 500000000 ∧ n ≤ B.length - 2 ∧ B.length - (2 + n) < 4 ∧ q = ([], 2)) ∨
    (∃ (x : List Int) (n : Nat), 6 ≤ B.length ∧ Hd (B.getD 0 0) (B.getD 1 0) ∧ iR (B.drop 2) mo (x, (n : Int), 0) ∧ an x ∧ x.length < 500000000 ∧ n ≤ B.length - 2 ∧ 4 < B.length - (2 + n) ∧ q = ([], 4)) ∨
    (∃ (x : List Int) (n : Nat), 6 ≤ B.length ∧ Hd (B.getD 0 0) (B.getD 1 0) ∧ iR (B.drop 2) mo (x, (n : Int), 0) ∧ an x ∧ x.length < 500000000 ∧ n ≤ B.length - 2 ∧ B.length - (2 + n) = 4 ∧ ¬ B.drop (2 + n) = jV x ∧ q = ([], 5)) ∨
    (∃ (x : List Int) (n : Nat), 6 ≤ B.length ∧ Hd (B.getD 0 0) (B.getD 1 0) ∧ iR (B.drop 2) mo (x, (n : Int), 0) ∧ an x ∧ x.length < 500000000 ∧ n ≤ B.length - 2 ∧ B.length - (2 + n) = 4 ∧ B.drop (2 + n) = jV x ∧ q = (x, 0)) := by
  rcases h with h | h | ⟨h6, hh, ⟨x, n, e⟩, hr, hq⟩
  · exact .inl h
  · exact .inr (.inl h)
  · obtain ⟨i1, i2, i3, i4⟩ := Pn (dQ hB 2) hr
    simp only [List.length_drop] at i1 i2 i3 i4
    have hxl : x.length < 500000000 := by
      rcases i4 with h | h
      · rw [h]; decide
      · omega
    have hez : ¬ e = 0 → x = [] ∧ n = 0 := fun he => by
      rcases hr with ⟨_, h⟩ | ⟨_, o, _, h⟩
      · cases h; exact ⟨rfl, rfl⟩
      · cases o
        · cases h; exact ⟨rfl, rfl⟩
        · cases h; exact absurd rfl he
    obtain ⟨k, rfl⟩ : ∃ k : Nat, n = (k : Int) := ⟨n.toNat, by omega⟩
    unfold fin at hq
    simp only [List.length_drop, List.drop_drop, Int.toNat_natCast] at hq
    split at hq
    · rename_i h1
      obtain ⟨rfl, h2⟩ := hez h1
      obtain rfl : k = 0 := by omega
      exact .inr (.inr (.inl ⟨_, h6, hh, hr, h1, hq⟩))
    · rename_i h1
      obtain rfl : e = 0 := by omega
      split at hq
      · rename_i h2; exact .inr (.inr (.inr (.inl ⟨_, _, h6, hh, hr, i1, hxl, by omega, by omega, hq⟩)))
      · split at hq
        · rename_i h2 h3; exact .inr (.inr (.inr (.inr (.inl ⟨_, _, h6, hh, hr, i1, hxl, by omega, by omega, hq⟩))))
        · split at hq
          · rename_i h2 h3 h4; exact .inr (.inr (.inr (.inr (.inr (.inr ⟨_, _, h6, hh, hr, i1, hxl, by omega, by omega, h4, hq⟩)))))
          · rename_i h2 h3 h4; exact .inr (.inr (.inr (.inr (.inr (.inl ⟨_, _, h6, hh, hr, i1, hxl, by omega, by omega, h4, hq⟩)))))
theorem lR.Xe {B : List Int} {mo : Int} {q : List Int × Int} (hB : an B) (hm : mo < 500000000) (h : lR B mo q) :
    (B.length < 6 ∧ q = ([], 2)) ∨ (6 ≤ B.length ∧ ¬ Hd (B.getD 0 0) (B.getD 1 0) ∧ q = ([], 4)) ∨
    (∃ (x : List Int) (n : Nat) (e : Int), 6 ≤ B.length ∧ Hd (B.getD 0 0) (B.getD 1 0) ∧ iR (B.drop 2) mo (x, (n : Int), e) ∧ an x ∧ x.length < 500000000 ∧ n ≤ B.length - 2 ∧
      ((¬ e = 0 ∧ q = ([], e)) ∨ (e = 0 ∧ B.length - (2 + n) < 4 ∧ q = ([], 2)) ∨ (e = 0 ∧ 4 < B.length - (2 + n) ∧ q = ([], 4)) ∨ (e = 0 ∧ B.length - (2 + n) = 4 ∧ ¬ B.drop (2 + n) = jV x ∧ q = ([], 5)) ∨ (e = 0 ∧ B.length - (2 + n) = 4 ∧ B.drop (2 + n) = jV x ∧ q = (x, 0)))) := by
  rcases h.ways hB hm with h | h | ⟨e, a, b, c, d, r⟩ | ⟨x, n, a, b, c, d, f, g, r⟩ | ⟨x, n, a, b, c, d, f, g, r⟩ | ⟨x, n, a, b, c, d, f, g, r⟩ | ⟨x, n, a, b, c, d, f, g, r⟩
  · exact .inl h
  · exact .inr (.inl h)
  · exact .inr (.inr ⟨[], 0, e, a, b, c, fun x hx => (by cases hx), by decide, by omega, .inl ⟨d, r⟩⟩)
  · exact .inr (.inr ⟨x, n, 0, a, b, c, d, f, g, .inr (.inl ⟨rfl, r⟩)⟩)
  · exact .inr (.inr ⟨x, n, 0, a, b, c, d, f, g, .inr (.inr (.inl ⟨rfl, r⟩))⟩)
  · exact .inr (.inr ⟨x, n, 0, a, b, c, d, f, g, .inr (.inr (.inr (.inl ⟨rfl, r⟩)))⟩)
  · exact .inr (.inr ⟨x, n, 0, a, b, c, d, f, g, .inr (.inr (.inr (.inr ⟨rfl, r⟩)))⟩)
theorem bp {l : List Int} (h : an l) : ∀ x ∈ l, 0 ≤ x ∧ x < 256 := h
def zS (B : List Int) : List Int := [120, 1] ++ mW B ++ jV B
theorem kJ {a : Int} {l : List Int} (h : 0 ≤ a ∧ a < 256) (k : an l) : an (a :: l) := fun x hx => by
  rcases List.mem_cons.1 hx with rfl | hx
  · exact h
  · exact k x hx
theorem Tr : Hd 120 1 := by unfold Hd; decide
end Go.aG
namespace Go.aa
open Go.af
def dr (a b : Int) : Int := ((a.toNat ^^^ b.toNat : Nat) : Int)
theorem pU {a b : Int} {n : Nat} (ha : 0 ≤ a ∧ a < 2 ^ n) (hb : 0 ≤ b ∧ b < 2 ^ n) : 0 ≤ dr a b ∧ dr a b < 2 ^ n := by
  have h1 : a.toNat < 2 ^ n := by have : ((a.toNat : Nat) : Int) < ((2 ^ n : Nat) : Int) := by push_cast; omega
                                  omega
  have h2 : b.toNat < 2 ^ n := by have : ((b.toNat : Nat) : Int) < ((2 ^ n : Nat) : Int) := by push_cast; omega
                                  omega
  have h := Nat.xor_lt_two_pow h1 h2
  refine ⟨Int.natCast_nonneg _, ?_⟩
  have : ((a.toNat ^^^ b.toNat : Nat) : Int) < ((2 ^ n : Nat) : Int) := by omega
  simpa [dr] using this
theorem vP {a b : Int} (ha : 0 ≤ a ∧ a < 4294967296) (hb : 0 ≤ b ∧ b < 4294967296) : IntKind.u32.wrap ((BitVec.ofInt IntKind.u32.bits a ^^^ BitVec.ofInt IntKind.u32.bits b).toNat : Int) = dr a b := by
  obtain ⟨x, rfl⟩ : ∃ x : Nat, a = (x : Int) := ⟨a.toNat, by omega⟩
  obtain ⟨y, rfl⟩ : ∃ y : Nat, b = (y : Int) := ⟨b.toNat, by omega⟩
  have e : IntKind.u32.bits = 32 := rfl
  have h := pU (n := 32) ha hb
  rw [e, BitVec.toNat_xor, cy, cy, Nat.mod_eq_of_lt (by omega), Nat.mod_eq_of_lt (by omega)]
  simp only [dr, Int.toNat_natCast] at h ⊢
  exact aG.wrap32 h.1 (by have := h.2; omega)
theorem W5 {a b : Int} (ha : 0 ≤ a ∧ a < 256) (hb : 0 ≤ b ∧ b < 256) : IntKind.u8.wrap ((BitVec.ofInt IntKind.u8.bits a ^^^ BitVec.ofInt IntKind.u8.bits b).toNat : Int) = dr a b := by
  obtain ⟨x, rfl⟩ : ∃ x : Nat, a = (x : Int) := ⟨a.toNat, by omega⟩
  obtain ⟨y, rfl⟩ : ∃ y : Nat, b = (y : Int) := ⟨b.toNat, by omega⟩
  have e : IntKind.u8.bits = 8 := rfl
  have h := pU (n := 8) ha hb
  rw [e, BitVec.toNat_xor, cy, cy, Nat.mod_eq_of_lt (by omega), Nat.mod_eq_of_lt (by omega)]
  simp only [dr, Int.toNat_natCast] at h ⊢
  exact Sl.mn h.1 (by have := h.2; omega)
theorem A7 {a : Int} (ha : 0 ≤ a ∧ a < 4294967296) : IntKind.u32.wrap ((BitVec.ofInt IntKind.u32.bits 4294967295 ^^^ BitVec.ofInt IntKind.u32.bits a).toNat : Int) = 4294967295 - a := by
  obtain ⟨x, rfl⟩ : ∃ x : Nat, a = (x : Int) := ⟨a.toNat, by omega⟩
  have e : IntKind.u32.bits = 32 := rfl
  have e1 : BitVec.ofInt 32 4294967295 = BitVec.allOnes 32 := by decide
  rw [e, e1, BitVec.xor_comm, BitVec.xor_allOnes, BitVec.toNat_not, cy, Nat.mod_eq_of_lt (by omega), aG.wrap32 (by omega) (by omega)]
  omega
def pZ (x : Nat) : Nat := if x % 2 = 1 then (x / 2) ^^^ 3988292384 else x / 2
def jT : Nat → Nat → Nat
  | 0, x => x
  | k + 1, x => pZ (jT k x)
theorem GF (a b : Nat) : (a ^^^ b) % 2 = (a % 2 + b % 2) % 2 := by
  have h := Nat.testBit_xor a b 0
  simp only [Nat.testBit_zero] at h
  have ha : a % 2 = 0 ∨ a % 2 = 1 := by omega
  have hb : b % 2 = 0 ∨ b % 2 = 1 := by omega
  have hc : (a ^^^ b) % 2 = 0 ∨ (a ^^^ b) % 2 = 1 := by omega
  rcases ha with ha | ha <;> rcases hb with hb | hb <;> rcases hc with hc | hc <;> rw [ha, hb, hc] at h <;> first | omega | (exfalso; revert h; decide)
theorem Hk (a b : Nat) : (a ^^^ b) / 2 = (a / 2) ^^^ (b / 2) := by
  refine Nat.eq_of_testBit_eq fun i => ?_
  simp only [Nat.testBit_div_two, Nat.testBit_xor]
theorem P6 (a b : Nat) : pZ (a ^^^ b) = pZ a ^^^ pZ b := by
  have h2 := GF a b
  have ha : a % 2 = 0 ∨ a % 2 = 1 := by omega
  have hb : b % 2 = 0 ∨ b % 2 = 1 := by omega
  unfold pZ
  rw [Hk]
  rcases ha with ha | ha <;> rcases hb with hb | hb <;> rw [h2, ha, hb]
  · simp
  · simp [Nat.xor_assoc]
  · simp only [Nat.reduceAdd, Nat.reduceMod, if_pos, if_neg, Nat.zero_ne_one, not_false_eq_true]
    rw [Nat.xor_assoc, Nat.xor_comm (b / 2), ← Nat.xor_assoc]
  · simp only [Nat.reduceAdd, Nat.reduceMod, if_pos, Nat.zero_ne_one, if_false]
    rw [Nat.xor_assoc, Nat.xor_comm 3988292384, Nat.xor_assoc, Nat.xor_self, Nat.xor_zero]
theorem LS (k a b : Nat) : jT k (a ^^^ b) = jT k a ^^^ jT k b := by
  induction k with
  | zero => rfl
  | succ k ih => simp only [jT, ih, P6]
theorem K0 (a : Nat) : pZ (2 * a) = a := by unfold pZ; rw [if_neg (by omega)]; omega
theorem TQ (h : Nat) : jT 8 (256 * h) = h := by
  have e : ∀ k m : Nat, jT k (2 ^ k * m) = m := by
    intro k
    induction k with
    | zero => intro m; simp [jT]
    | succ k ih => intro m; rw [jT, Nat.pow_succ, Nat.mul_assoc, ih, K0]
  exact e 8 h
theorem G3 (s : Nat) : s = (256 * (s / 256)) ^^^ (s % 256) := by
  have h := Nat.two_pow_add_eq_or_of_lt (i := 8) (b := s % 256) (by omega) (s / 256)
  have h2 : (2 ^ 8 * (s / 256)) ^^^ (s % 256) = (2 ^ 8 * (s / 256)) ||| (s % 256) := by
    refine Nat.eq_of_testBit_eq fun i => ?_
    rw [Nat.testBit_xor, Nat.testBit_or]
    rcases Nat.lt_or_ge i 8 with hi | hi
    · rw [Nat.testBit_two_pow_mul, decide_eq_false (by omega)]; simp
    · have : (s % 256).testBit i = false := Nat.testBit_lt_two_pow (Nat.lt_of_lt_of_le (by omega : s % 256 < 2 ^ 8) (Nat.pow_le_pow_right (by decide) hi))
      rw [this]; simp
  have e : 2 ^ 8 * (s / 256) = 256 * (s / 256) := by omega
  rw [e] at h h2
  omega
theorem Dk (s c : Nat) (hc : c < 256) : jT 8 (s ^^^ c) = jT 8 ((s % 256) ^^^ c) ^^^ (s / 256) := by
  conv => lhs; rw [G3 s]
  rw [Nat.xor_assoc, LS, TQ, Nat.xor_comm]
end Go.aa
namespace Go.aa
open Go.af
theorem Tw {x : Nat} (h : x < 4294967296) : pZ x < 4294967296 := by
  unfold pZ
  split
  · exact Nat.xor_lt_two_pow (n := 32) (by omega) (by decide)
  · omega
theorem Cc {x : Nat} (h : x < 4294967296) : ∀ k, jT k x < 4294967296
  | 0 => h
  | k + 1 => Tw (Cc h k)
def fI (x : Int) : Int := ((jT 8 x.toNat : Nat) : Int)
theorem AW {x : Int} (h : 0 ≤ x ∧ x < 4294967296) : 0 ≤ fI x ∧ fI x < 4294967296 := by
  have := Cc (x := x.toNat) (by omega) 8
  unfold fI; omega
theorem Cu {s c : Int} (hs : 0 ≤ s) (hc : 0 ≤ c ∧ c < 256) : fI (dr s c) = dr (fI (dr (s % 256) c)) (s / 256) := by
  obtain ⟨a, rfl⟩ : ∃ a : Nat, s = (a : Int) := ⟨s.toNat, by omega⟩
  obtain ⟨b, rfl⟩ : ∃ b : Nat, c = (b : Int) := ⟨c.toNat, by omega⟩
  have e1 : ((a : Int) % 256).toNat = a % 256 := by omega
  have e2 : ((a : Int) / 256).toNat = a / 256 := by omega
  simp only [fI, dr, Int.toNat_natCast, e1, e2]
  rw [Dk a b (by omega)]
def fu (s : Int) (l : List Int) : Int := l.foldl (fun s c => fI (dr s c)) s
theorem nz : ∀ {l : List Int} {s : Int}, an l → 0 ≤ s ∧ s < 4294967296 → 0 ≤ fu s l ∧ fu s l < 4294967296
  | [], s, _, h => h
  | c :: l, s, hl, h => by
    have hc := hl c (by simp)
    exact nz (l := l) (fun x hx => hl x (by simp [hx])) (AW (by have := pU (n := 32) (a := s) (b := c) (by omega) (by omega); omega))
theorem xQ {l : List Int} {s : Int} {i : Nat} (h : i < l.length) : fu s (l.take (i + 1)) = fI (dr (fu s (l.take i)) (l.getD i 0)) := by
  rw [ab.gR h]; simp [fu]
def pG (s : Int) (l : List Int) : Int := 4294967295 - fu (4294967295 - s) l
theorem sS {s : Int} {l : List Int} (hs : 0 ≤ s ∧ s < 4294967296) (hl : an l) : 0 ≤ pG s l ∧ pG s l < 4294967296 := by
  have := nz (l := l) (s := 4294967295 - s) hl (by omega)
  unfold pG; omega
structure Ch where
  k : List Int
  d : List Int
def gf (k d : List Int) : Int := pG (pG 0 k) d
def jG (c : Int) : Prop := (97 ≤ c ∧ c ≤ 122) ∨ (65 ≤ c ∧ c ≤ 90)
instance (c : Int) : Decidable (jG c) := by unfold jG; infer_instance
def df (k : List Int) : Prop := k.length = 4 ∧ ∀ c ∈ k, jG c
instance (k : List Int) : Decidable (df k) := by unfold df; infer_instance
def bR : List Int := [73, 72, 68, 82]
def aT : List Int := [80, 76, 84, 69]
def aQ : List Int := [116, 82, 78, 83]
def aZ : List Int := [73, 68, 65, 84]
def aY : List Int := [73, 69, 78, 68]
def ea : List Int := [137, 80, 78, 71, 13, 10, 26, 10]
def first (L : List Int) : Except Int Ch :=
  if L.length < 12 then .error 2
  else if 2147483647 < aG.cZ L ∨ ¬ df ((L.drop 4).take 4) then .error 4
  else if (L.length : Int) - 12 < aG.cZ L then .error 2
  else if aG.cZ (L.drop (8 + (aG.cZ L).toNat)) = gf ((L.drop 4).take 4) ((L.drop 8).take (aG.cZ L).toNat) then .ok ⟨(L.drop 4).take 4, (L.drop 8).take (aG.cZ L).toNat⟩
  else .error 5
theorem uF {L : List Int} (h : an L) : 0 ≤ aG.cZ L ∧ aG.cZ L < 4294967296 := by
  have h0 := h.get 0; have h1 := h.get 1; have h2 := h.get 2; have h3 := h.get 3
  unfold aG.cZ; omega
theorem MO {L : List Int} (hL : an L) : (L.length < 12 ∧ first L = .error 2) ∨ ∃ n : Nat, 12 ≤ L.length ∧ aG.cZ L = (n : Int) ∧ n < 4294967296 ∧
    ((2147483647 < n ∧ first L = .error 4) ∨ (n ≤ 2147483647 ∧ ¬ df ((L.drop 4).take 4) ∧ first L = .error 4) ∨ (n ≤ 2147483647 ∧ df ((L.drop 4).take 4) ∧ L.length < 12 + n ∧ first L = .error 2) ∨
     (12 + n ≤ L.length ∧ df ((L.drop 4).take 4) ∧ aG.cZ (L.drop (8 + n)) = gf ((L.drop 4).take 4) ((L.drop 8).take n) ∧ first L = .ok ⟨(L.drop 4).take 4, (L.drop 8).take n⟩ ∧ n ≤ 2147483647) ∨
     (12 + n ≤ L.length ∧ df ((L.drop 4).take 4) ∧ ¬ aG.cZ (L.drop (8 + n)) = gf ((L.drop 4).take 4) ((L.drop 8).take n) ∧ first L = .error 5 ∧ n ≤ 2147483647)) := by
  rcases Nat.lt_or_ge L.length 12 with h | h
  · exact .inl ⟨h, by unfold first; rw [if_pos h]⟩
  · right
    have hn := uF hL
    obtain ⟨n, e⟩ : ∃ n : Nat, aG.cZ L = (n : Int) := ⟨(aG.cZ L).toNat, by omega⟩
    refine ⟨n, h, e, by omega, ?_⟩
    unfold first
    rw [if_neg (by omega), e, Int.toNat_natCast]
    by_cases h1 : 2147483647 < n
    · exact .inl ⟨h1, by rw [if_pos (.inl (by omega))]⟩
    · by_cases h2 : df ((L.drop 4).take 4)
      · rw [if_neg (by rintro (h | h); omega; exact h h2)]
        by_cases h3 : L.length < 12 + n
        · exact .inr (.inr (.inl ⟨by omega, h2, h3, by rw [if_pos (by omega)]⟩))
        · rw [if_neg (by omega)]
          by_cases h4 : aG.cZ (L.drop (8 + n)) = gf ((L.drop 4).take 4) ((L.drop 8).take n)
          · exact .inr (.inr (.inr (.inl ⟨by omega, h2, h4, by rw [if_pos h4], by omega⟩)))
          · exact .inr (.inr (.inr (.inr ⟨by omega, h2, h4, by rw [if_neg h4], by omega⟩)))
      · exact .inr (.inl ⟨by omega, h2, by rw [if_pos (.inr h2)]⟩)
def fy : Nat → List Int → List Ch → Except Int (List Ch)
  | 0, _, _ => .error 2
  | f + 1, L, l => match first L with
    | .error e => .error e
    | .ok c => if c.k = aY then (if L.length - (12 + c.d.length) = 0 then .ok (l ++ [c]) else .error 4) else fy f (L.drop (12 + c.d.length)) (l ++ [c])
def cut (B : List Int) : Except Int (List Ch) :=
  if 262144 < B.length then .error 3 else if B.length < 8 then .error 2 else if B.take 8 = ea then fy (B.length + 1) (B.drop 8) [] else .error 4
structure Wk where
  plte : Bool
  trns : Bool
  bW : Bool
  j0 : Bool
def fM (k : List Int) : Prop := df k ∧ k.getD 0 0 ≤ 90
instance (k : List Int) : Decidable (fM k) := by unfold fM; infer_instance
def bT (w : Wk) (c : Ch) : Wk × Bool :=
  if c.k = aZ then (⟨w.plte, w.trns, true, w.j0⟩, !w.j0)
  else if c.k = aT then (if w.trns then (⟨w.plte, w.trns, w.bW, w.bW⟩, false) else (⟨true, w.trns, w.bW, w.bW⟩, !w.plte && !w.bW))
  else if c.k = aQ then (⟨w.plte, true, w.bW, w.bW⟩, !w.trns && !w.bW)
  else (⟨w.plte, w.trns, w.bW, w.bW⟩, decide (df c.k) && !decide (fM c.k))
def walk : List Ch → Wk → Option Wk
  | [], w => some w
  | c :: l, w => if (bT w c).2 then walk l (bT w c).1 else none
def cJ (l : List Ch) : Bool :=
  decide (3 ≤ l.length) && (l.map Ch.k).getD 0 [] == bR && (l.map (·.d.length)).getD 0 0 == 13 && (l.map Ch.k).getD (l.length - 1) [] == aY && (l.map (·.d.length)).getD (l.length - 1) 0 == 0 &&
    (match walk ((l.drop 1).take (l.length - 2)) ⟨false, false, false, false⟩ with | some w => w.bW | none => false)
end Go.aa
namespace Go.aa
open Go.af
structure Od where
  gW : Nat
  ends : Nat
  gT : Nat
  fH : Nat
  ga : Nat
def dv (n i : Nat) (prev : List Int) (c : Ch) (s : Od) : Option Od :=
  if c.k = bR then (if 0 < i ∨ c.d.length ≠ 13 then none else some { s with gW := s.gW + 1 })
  else if c.k = aY then (if i + 1 < n ∨ 0 < c.d.length then none else some { s with ends := s.ends + 1 })
  else if c.k = aZ then (if 0 < s.ga ∧ prev ≠ aZ then none else some { s with ga := s.ga + 1 })
  else if c.k = aT then (if 0 < s.ga ∨ 0 < s.fH then none else some { s with gT := s.gT + 1 })
  else if c.k = aQ then (if 0 < s.ga then none else some { s with fH := s.fH + 1 })
  else if ¬ df c.k ∨ fM c.k then none else some s
def sd (s : Od) : Bool := decide (s.gW = 1) && decide (s.ends = 1) && decide (1 ≤ s.ga) && decide (s.gT ≤ 1) && decide (s.fH ≤ 1)
def kA (n : Nat) : Nat → List Int → List Ch → Od → Bool
  | _, _, [], s => sd s
  | i, prev, c :: l, s => match dv n i prev c s with | none => false | some s2 => kA n (i + 1) c.k l s2
theorem F4 {n i : Nat} {prev : List Int} {c : Ch} {s s2 : Od} (h : dv n i prev c s = some s2) : s.gT ≤ s2.gT ∧ s.fH ≤ s2.fH ∧ s.gW ≤ s2.gW ∧ (0 < i → s2.gW = s.gW) := by
  unfold dv at h
  split at h
  · split at h
    · cases h
    · rename_i h1 h2; cases h; exact ⟨Nat.le_refl _, Nat.le_refl _, by simp, fun h => absurd (.inl h) h2⟩
  · split at h
    · split at h <;> cases h; simp
    · split at h
      · split at h <;> cases h; simp
      · split at h
        · split at h <;> cases h; simp
        · split at h
          · split at h <;> cases h; simp
          · split at h <;> cases h; simp
theorem si {n : Nat} : ∀ {l : List Ch} {i : Nat} {prev : List Int} {s : Od}, (1 < s.gT ∨ 1 < s.fH ∨ (0 < i ∧ s.gW = 0)) → kA n i prev l s = false
  | [], i, prev, s, h => by
    unfold kA sd
    rcases h with h | h | h
    · rw [decide_eq_false (p := s.gT ≤ 1) (by omega)]; simp
    · rw [decide_eq_false (p := s.fH ≤ 1) (by omega)]; simp
    · rw [decide_eq_false (p := s.gW = 1) (by omega)]; simp
  | c :: l, i, prev, s, h => by
    unfold kA
    split
    · rfl
    · rename_i s2 h2
      have g := F4 h2
      refine si ?_
      rcases h with h | h | h
      · exact .inl (by omega)
      · exact .inr (.inl (by omega))
      · exact .inr (.inr ⟨by omega, by rw [g.2.2.2 h.1]; exact h.2⟩)
def pM (l : List Ch) (w : Wk) : Bool :=
  (match walk (l.take (l.length - 1)) w with | some w => w.bW | none => false) && (l.map Ch.k).getD (l.length - 1) [] == aY && (l.map (·.d.length)).getD (l.length - 1) 0 == 0
structure Wi (prev : List Int) (s : Od) (w : Wk) : Prop where
  gW : s.gW = 1
  ends : s.ends = 0
  plte : w.plte = decide (0 < s.gT)
  trns : w.trns = decide (0 < s.fH)
  bW : w.bW = decide (0 < s.ga)
  j0 : w.j0 = decide (0 < s.ga ∧ prev ≠ aZ)
  one : s.gT ≤ 1 ∧ s.fH ≤ 1
theorem CI {k : List Int} (h : k = bR ∨ k = aY) : df k ∧ fM k := by
  rcases h with rfl | rfl <;> decide
theorem EW {c c2 : Ch} {l : List Ch} {w : Wk} : pM (c :: c2 :: l) w = (if (bT w c).2 then pM (c2 :: l) (bT w c).1 else false) := by
  unfold pM
  have e : (c :: c2 :: l).take ((c :: c2 :: l).length - 1) = c :: (c2 :: l).take ((c2 :: l).length - 1) := by simp
  have e4 : ((c :: c2 :: l).map Ch.k).getD ((c :: c2 :: l).length - 1) [] = ((c2 :: l).map Ch.k).getD ((c2 :: l).length - 1) [] := rfl
  have e5 : ((c :: c2 :: l).map (·.d.length)).getD ((c :: c2 :: l).length - 1) 0 = ((c2 :: l).map (·.d.length)).getD ((c2 :: l).length - 1) 0 := rfl
  rw [e, e4, e5, walk]
  cases h : (bT w c).2
  · simp only [Bool.false_eq_true, if_false, Bool.false_and]
  · simp only [if_true]
theorem Kl {n i : Nat} {prev : List Int} {c : Ch} {s : Od} {w : Wk} (hi : 0 < i) (hn : i + 1 = n) (h : Wi prev s w) : kA n i prev [c] s = pM [c] w := by
  have hp := h.one
  have e : pM [c] w = (w.bW && (c.k == aY) && (c.d.length == 0)) := by simp [pM, walk]
  rw [e, h.bW]
  unfold kA dv
  by_cases h1 : c.k = bR
  · rw [if_pos h1, if_pos (.inl hi)]
    have : (c.k == aY) = false := by rw [h1]; decide
    simp [this]
  · rw [if_neg h1]
    by_cases h2 : c.k = aY
    · rw [if_pos h2]
      by_cases h3 : 0 < c.d.length
      · rw [if_pos (.inr h3)]
        have : (c.d.length == 0) = false := by simp; intro h; rw [h] at h3; simp at h3
        rw [this]; simp
      · rw [if_neg (by rintro (h | h); omega; exact h3 h)]
        simp only [kA, sd, h.gW, h.ends]
        have e1 : (c.k == aY) = true := by rw [h2]; decide
        have e2 : (c.d.length == 0) = true := by simp; exact List.length_eq_zero_iff.1 (by omega)
        rw [e1, e2, decide_eq_true hp.1, decide_eq_true hp.2]
        simp
        omega
    · have e1 : (c.k == aY) = false := by simpa using h2
      rw [if_neg h2, e1]
      simp only [Bool.and_false, Bool.false_and]
      split
      · rfl
      · rename_i s2 hs
        have he : s2.ends = 0 := by
          have hend := h.ends
          split at hs
          · split at hs <;> cases hs; exact hend
          · split at hs
            · split at hs <;> cases hs; exact hend
            · split at hs
              · split at hs <;> cases hs; exact hend
              · split at hs <;> cases hs; exact hend
        simp [kA, sd, he]
theorem oZ {n : Nat} : ∀ {l : List Ch} {i : Nat} {prev : List Int} {s : Od} {w : Wk}, l ≠ [] → 0 < i → i + l.length = n → Wi prev s w → kA n i prev l s = pM l w
  | [], i, prev, s, w, h, _, _, _ => absurd rfl h
  | [c], i, prev, s, w, _, hi, hn, h => Kl hi (by simpa using hn) h
  | c :: c2 :: l, i, prev, s, w, _, hi, hn, h => by
    have hn2 : i + 1 + (c2 :: l).length = n := by simp only [List.length_cons] at hn ⊢; omega
    have hlt : i + 1 < n := by simp only [List.length_cons] at hn; omega
    have hp := h.one
    rw [EW]
    rw [kA]
    by_cases h1 : c.k = bR
    · have hc := CI (.inl h1)
      rw [show dv n i prev c s = none by unfold dv; rw [if_pos h1, if_pos (.inl hi)]]
      have : (bT w c).2 = false := by
        unfold bT
        rw [if_neg (by rw [h1]; decide), if_neg (by rw [h1]; decide), if_neg (by rw [h1]; decide)]
        simp [hc.1, hc.2]
      rw [this]; rfl
    by_cases h2 : c.k = aY
    · have hc := CI (.inr h2)
      rw [show dv n i prev c s = none by unfold dv; rw [if_neg h1, if_pos h2, if_pos (.inl hlt)]]
      have : (bT w c).2 = false := by
        unfold bT
        rw [if_neg (by rw [h2]; decide), if_neg (by rw [h2]; decide), if_neg (by rw [h2]; decide)]
        simp [hc.1, hc.2]
      rw [this]; rfl
    by_cases h3 : c.k = aZ
    · have e : bT w c = (⟨w.plte, w.trns, true, w.j0⟩, !w.j0) := by unfold bT; rw [if_pos h3]
      rw [e]
      by_cases h4 : 0 < s.ga ∧ prev ≠ aZ
      · rw [show dv n i prev c s = none by unfold dv; rw [if_neg h1, if_neg h2, if_pos h3, if_pos h4]]
        rw [h.j0, decide_eq_true h4]; rfl
      · rw [show dv n i prev c s = some { s with ga := s.ga + 1 } by unfold dv; rw [if_neg h1, if_neg h2, if_pos h3, if_neg h4]]
        rw [h.j0, decide_eq_false h4]
        simp only [Bool.not_false, if_true]
        refine oZ (by simp) (by omega) hn2 ⟨h.gW, h.ends, h.plte, h.trns, by simp, ?_, hp⟩
        simp [h3]
    by_cases h4 : c.k = aT
    · by_cases h5 : 0 < s.ga ∨ 0 < s.fH
      · rw [show dv n i prev c s = none by unfold dv; rw [if_neg h1, if_neg h2, if_neg h3, if_pos h4, if_pos h5]]
        have : (bT w c).2 = false := by
          unfold bT
          rw [if_neg h3, if_pos h4, h.trns, h.bW]
          by_cases h6 : 0 < s.fH
          · simp [h6]
          · have h7 : 0 < s.ga := by omega
            simp [h6, h7]
        rw [this]; rfl
      · have h6 : ¬ 0 < s.fH := fun hh => h5 (.inr hh)
        have h7 : ¬ 0 < s.ga := fun hh => h5 (.inl hh)
        rw [show dv n i prev c s = some { s with gT := s.gT + 1 } by unfold dv; rw [if_neg h1, if_neg h2, if_neg h3, if_pos h4, if_neg h5]]
        have e : bT w c = (⟨true, w.trns, w.bW, w.bW⟩, !w.plte && !w.bW) := by
          unfold bT
          rw [if_neg h3, if_pos h4, h.trns]
          simp [h6]
        rw [e, h.plte, h.bW]
        by_cases h8 : 0 < s.gT
        · rw [show (!decide (0 < s.gT) && !decide (0 < s.ga)) = false by simp [h8]]
          simp only [Bool.false_eq_true, if_false]
          exact si (.inl (by simp only; omega))
        · rw [show (!decide (0 < s.gT) && !decide (0 < s.ga)) = true by simp [h8, h7]]
          simp only [if_true]
          refine oZ (by simp) (by omega) hn2 ⟨h.gW, h.ends, by simp, h.trns, by simp [h7], ?_, by simp only; omega, hp.2⟩
          simp [h7]
    by_cases h5 : c.k = aQ
    · have e : bT w c = (⟨w.plte, true, w.bW, w.bW⟩, !w.trns && !w.bW) := by unfold bT; rw [if_neg h3, if_neg h4, if_pos h5]
      rw [e, h.trns, h.bW]
      by_cases h7 : 0 < s.ga
      · rw [show dv n i prev c s = none by unfold dv; rw [if_neg h1, if_neg h2, if_neg h3, if_neg h4, if_pos h5, if_pos h7]]
        simp [h7]
      · rw [show dv n i prev c s = some { s with fH := s.fH + 1 } by unfold dv; rw [if_neg h1, if_neg h2, if_neg h3, if_neg h4, if_pos h5, if_neg h7]]
        by_cases h8 : 0 < s.fH
        · rw [show (!decide (0 < s.fH) && !decide (0 < s.ga)) = false by simp [h8]]
          simp only [Bool.false_eq_true, if_false]
          exact si (.inr (.inl (by simp only; omega)))
        · rw [show (!decide (0 < s.fH) && !decide (0 < s.ga)) = true by simp [h8, h7]]
          simp only [if_true]
          refine oZ (by simp) (by omega) hn2 ⟨h.gW, h.ends, h.plte, by simp, by simp [h7], ?_, hp.1, by simp only; omega⟩
          simp [h7]
    · have e : bT w c = (⟨w.plte, w.trns, w.bW, w.bW⟩, decide (df c.k) && !decide (fM c.k)) := by unfold bT; rw [if_neg h3, if_neg h4, if_neg h5]
      rw [e]
      by_cases h6 : ¬ df c.k ∨ fM c.k
      · rw [show dv n i prev c s = none by unfold dv; rw [if_neg h1, if_neg h2, if_neg h3, if_neg h4, if_neg h5, if_pos h6]]
        have : (decide (df c.k) && !decide (fM c.k)) = false := by
          rcases h6 with h | h <;> simp [h]
        simp [this]
      · rw [show dv n i prev c s = some s by unfold dv; rw [if_neg h1, if_neg h2, if_neg h3, if_neg h4, if_neg h5, if_neg h6]]
        have : (decide (df c.k) && !decide (fM c.k)) = true := by
          have a : df c.k := Classical.byContradiction fun hh => h6 (.inl hh)
          have b : ¬ fM c.k := fun hh => h6 (.inr hh)
          simp [a, b]
        simp only [this, if_true]
        refine oZ (by simp) (by omega) hn2 ⟨h.gW, h.ends, h.plte, h.trns, h.bW, ?_, hp⟩
        rw [h.bW]
        have : c.k ≠ aZ := h3
        simp [this]
theorem Ky (l : List Ch) : kA l.length 0 [] l ⟨0, 0, 0, 0, 0⟩ = cJ l := by
  match l with
  | [] => rfl
  | [c] =>
    have e : cJ [c] = false := by simp [cJ]
    rw [e]
    unfold kA
    split
    · rfl
    · rename_i s2 h
      unfold dv at h
      simp only [kA, sd]
      split at h
      · split at h <;> cases h; simp
      · split at h
        · split at h <;> cases h; simp
        · split at h
          · split at h <;> cases h; simp
          · split at h
            · split at h <;> cases h; simp
            · split at h
              · split at h <;> cases h; simp
              · split at h <;> cases h; simp
  | c :: c2 :: l =>
    rw [kA]
    by_cases h1 : c.k = bR
    · by_cases h2 : c.d.length = 13
      · rw [show dv (c :: c2 :: l).length 0 [] c ⟨0, 0, 0, 0, 0⟩ = some ⟨1, 0, 0, 0, 0⟩ by unfold dv; rw [if_pos h1, if_neg (by rintro (h | h); omega; exact h h2)]]
        simp only
        rw [oZ (w := ⟨false, false, false, false⟩) (by simp) (by omega) (by simp only [List.length_cons]; omega) ⟨rfl, rfl, by simp, by simp, by simp, by simp, by simp, by simp⟩]
        unfold cJ pM
        have e1 : ((c :: c2 :: l).map Ch.k).getD 0 [] = bR := h1
        have e2 : ((c :: c2 :: l).map (·.d.length)).getD 0 0 = 13 := h2
        have e3 : ((c :: c2 :: l).drop 1).take ((c :: c2 :: l).length - 2) = (c2 :: l).take ((c2 :: l).length - 1) := by simp
        have e4 : ((c :: c2 :: l).map Ch.k).getD ((c :: c2 :: l).length - 1) [] = ((c2 :: l).map Ch.k).getD ((c2 :: l).length - 1) [] := rfl
        have e5 : ((c :: c2 :: l).map (·.d.length)).getD ((c :: c2 :: l).length - 1) 0 = ((c2 :: l).map (·.d.length)).getD ((c2 :: l).length - 1) 0 := rfl
        rw [e1, e2, e3, e4, e5]
        rcases Nat.eq_zero_or_pos l.length with h0 | h0
        · have hl : l = [] := List.length_eq_zero_iff.1 h0
          subst hl
          simp [walk]
        · rw [decide_eq_true (p := 3 ≤ (c :: c2 :: l).length) (by simp only [List.length_cons]; omega)]
          rw [show (bR == bR) = true by decide, show ((13 : Nat) == 13) = true from rfl]
          have hb : ∀ a b m : Bool, (m && a && b) = (true && true && true && a && b && m) := by decide
          exact hb _ _ _
      · rw [show dv (c :: c2 :: l).length 0 [] c ⟨0, 0, 0, 0, 0⟩ = none by unfold dv; rw [if_pos h1, if_pos (.inr h2)]]
        have e2 : ((c :: c2 :: l).map (·.d.length)).getD 0 0 = c.d.length := rfl
        have e3 : (c.d.length == 13) = false := by simpa using h2
        unfold cJ
        rw [e2, e3]
        simp
    · have e1 : ((c :: c2 :: l).map Ch.k).getD 0 [] = c.k := rfl
      have e3 : (c.k == bR) = false := by simpa using h1
      have e4 : cJ (c :: c2 :: l) = false := by unfold cJ; rw [e1, e3]; simp
      rw [e4]
      split
      · rfl
      · rename_i s2 h
        have hz : s2.gW = 0 := by
          unfold dv at h
          rw [if_neg h1] at h
          split at h
          · split at h <;> cases h; rfl
          · split at h
            · split at h <;> cases h; rfl
            · split at h
              · split at h <;> cases h; rfl
              · split at h
                · split at h <;> cases h; rfl
                · split at h <;> cases h; rfl
        exact si (.inr (.inr ⟨by omega, hz⟩))
end Go.aa
namespace Go.aa
open Go.af
def off (a b : Int) : Int := max (a - b) (b - a)
def o9 (a b c : Int) : Int :=
  if off (a + b - c) a ≤ off (a + b - c) b ∧ off (a + b - c) a ≤ off (a + b - c) c then a else if off (a + b - c) b ≤ off (a + b - c) c then b else c
def ly (kind a b c : Int) : Int := if kind = 1 then a else if kind = 2 then b else if kind = 3 then (a + b) / 2 else if kind = 4 then o9 a b c else 0
def gz (l : List Int) (i back : Nat) : Int := if i < back then 0 else l.getD (i - back) 0
def iL (kind : Int) (row above : List Int) (back : Nat) (out : List Int) (i : Nat) : Int := (row.getD i 0 + ly kind (gz out i back) (above.getD i 0) (gz above i back)) % 256
def gp (kind : Int) (row above : List Int) (back : Nat) : Nat → List Int
  | 0 => []
  | i + 1 => gp kind row above back i ++ [iL kind row above back (gp kind row above back i) i]
def eB (kind : Int) (row above : List Int) (back : Nat) : List Int := gp kind row above back row.length
theorem me (kind : Int) (row above : List Int) (back : Nat) : ∀ i, (gp kind row above back i).length = i
  | 0 => rfl
  | i + 1 => by simp [gp, me kind row above back i]
theorem tV (kind : Int) (row above : List Int) (back : Nat) : (eB kind row above back).length = row.length := me ..
theorem rE (kind : Int) (row above : List Int) (back : Nat) : ∀ i, an (gp kind row above back i)
  | 0 => fun x hx => by cases hx
  | i + 1 => aH.an.snoc (rE kind row above back i) (by unfold iL; omega)
theorem P1 {a b : List Int} {i back : Nat} (ha : a.length = i) (hb : 0 < back) : gz (a ++ b) i back = gz a i back := by
  unfold gz
  split
  · rfl
  · rw [List.getD_eq_getElem?_getD, List.getD_eq_getElem?_getD, List.getElem?_append_left (by omega)]
theorem vM {l : List Int} (h : an l) (i back : Nat) : 0 ≤ gz l i back ∧ gz l i back < 256 := by
  unfold gz
  split
  · decide
  · exact h.get _
structure Ps where
  x : Int
  y : Int
  dx : Int
  dy : Int
  w : Int
  h : Int
def many (frm step end_ : Int) : Int := if end_ ≤ frm then 0 else (end_ - frm + step - 1) / step
def tH (x y dx dy w h : Int) : Ps := ⟨x, y, dx, dy, many x dx w, many y dy h⟩
def gX (w h : Int) : List Ps := [tH 0 0 8 8 w h, tH 4 0 8 8 w h, tH 0 4 4 8 w h, tH 2 0 4 4 w h, tH 0 2 2 4 w h, tH 1 0 2 2 w h, tH 0 1 1 2 w h]
def eW (w h : Int) : List Ps := (gX w h).filter fun p => decide (0 < p.w) && decide (0 < p.h)
def whole (w h : Int) : List Ps := [⟨0, 0, 1, 1, w, h⟩]
def aW (w h : Int) : Int := if w < 1 ∨ h < 1 then 1 else if 256 < w ∨ 256 < h ∨ 16384 / h < w then 6 else 0
def dE (w bits : Int) : Int := (w * bits + 7) / 8
def fh (l : List Ps) (bits : Int) : Int := (l.map fun p => if 0 < p.w then p.h * (1 + dE p.w bits) else 0).sum
structure Hd where
  w : Int
  h : Int
  dep : Int
  ar : Int
  ba : Bool
def parts (c : Int) : Int := if c = 0 ∨ c = 3 then 1 else if c = 2 then 3 else if c = 4 then 2 else if c = 6 then 4 else 0
def deep (c d : Int) : Prop := (c = 0 ∧ (d = 1 ∨ d = 2 ∨ d = 4 ∨ d = 8 ∨ d = 16)) ∨ (c = 3 ∧ (d = 1 ∨ d = 2 ∨ d = 4 ∨ d = 8)) ∨ ((c = 2 ∨ c = 4 ∨ c = 6) ∧ (d = 8 ∨ d = 16))
instance (c d : Int) : Decidable (deep c d) := by unfold deep; infer_instance
def aL (B : List Int) : Hd := ⟨aG.cZ B, aG.cZ (B.drop 4), B.getD 8 0, B.getD 9 0, decide (B.getD 12 0 = 1)⟩
def eJ (B : List Int) : Int :=
  if B.length ≠ 13 then 4
  else if ¬ deep (aL B).ar (aL B).dep ∨ 0 < B.getD 10 0 + B.getD 11 0 ∨ 1 < B.getD 12 0 ∨ (aL B).w = 0 ∨ (aL B).h = 0 then 4
  else if aW (aL B).w (aL B).h = 0 then 0 else 6
def fK (B : List Int) (i : Nat) : Int := B.getD (i / 8) 0 / 2 ^ (7 - i % 8) % 2
def bO (B : List Int) (at_ : Nat) : Nat → Int
  | 0 => 0
  | n + 1 => 2 * bO B at_ n + fK B (at_ + n)
structure Fl where
  hd : Hd
  plte : List Int
  trns : List Int
def bC (l : List Ch) (k : List Int) : List Int := match l.find? (fun c => c.k == k) with | some c => c.d | none => []
def dV (l : List Ch) (k : List Int) : Bool := l.any fun c => c.k == k
def bW (l : List Ch) : List Int := (l.filter fun c => c.k == aZ).flatMap (·.d)
def mb (h : Hd) (plte : List Int) (has : Bool) (trns : List Int) (is : Bool) : Prop :=
  (if has then ¬ (h.ar = 0 ∨ h.ar = 4) ∧ (h.ar = 3 → (plte.length : Int) / 3 ≤ 2 ^ h.dep.toNat) ∧ plte.length % 3 = 0 ∧ 0 < plte.length ∧ plte.length / 3 ≤ 256 else h.ar ≠ 3) ∧
  (is = true → (h.ar = 3 ∧ trns.length ≤ plte.length / 3) ∨ (h.ar = 0 ∧ trns.length = 2) ∨ (h.ar = 2 ∧ trns.length = 6))
instance (h : Hd) (plte : List Int) (has : Bool) (trns : List Int) (is : Bool) : Decidable (mb h plte has trns is) := by unfold mb; infer_instance
def dX (h : Hd) (row : List Int) (x : Nat) : List Int := (List.range (parts h.ar).toNat).map fun i => bO row (x * (parts h.ar).toNat * h.dep.toNat + i * h.dep.toNat) h.dep.toNat
def Iz (h : Hd) (v : Int) : Int := v * (65535 / (2 ^ h.dep.toNat - 1))
def aR (h : Hd) (trns : List Int) : List Int := if h.ar = 0 ∨ h.ar = 2 then (List.range (trns.length / 2)).map fun i => (trns.getD (2 * i) 0 * 256 + trns.getD (2 * i + 1) 0) % 2 ^ h.dep.toNat else []
def fS (f : Fl) (v : List Int) : Option (List Int) :=
  if f.hd.ar = 3 then
    (if (f.plte.length / 3 : Nat) ≤ (v.getD 0 0).toNat then none
     else some [f.plte.getD (3 * (v.getD 0 0).toNat) 0 * 257, f.plte.getD (3 * (v.getD 0 0).toNat + 1) 0 * 257, f.plte.getD (3 * (v.getD 0 0).toNat + 2) 0 * 257, if (v.getD 0 0).toNat < f.trns.length then f.trns.getD (v.getD 0 0).toNat 0 * 257 else 65535])
  else
    let u := v.map (Iz f.hd)
    let a := if 0 < (aR f.hd f.trns).length ∧ v = aR f.hd f.trns then 0 else if f.hd.ar = 4 ∨ f.hd.ar = 6 then u.getD (u.length - 1) 0 else 65535
    if f.hd.ar = 0 ∨ f.hd.ar = 4 then some [u.getD 0 0, u.getD 0 0, u.getD 0 0, a] else some [u.getD 0 0, u.getD 1 0, u.getD 2 0, a]
def kN (w : Int) (bN : List Int) (x y : Int) (c : List Int) : List Int := bN.take (4 * (y * w + x)).toNat ++ c ++ bN.drop ((4 * (y * w + x)).toNat + 4)
def dW (f : Fl) (p : Ps) (y : Int) (row : List Int) : Nat → Nat → List Int → Option (List Int)
  | 0, _, bN => some bN
  | k + 1, i, bN => match fS f (dX f.hd row i) with
    | none => none
    | some c => dW f p y row k (i + 1) (kN f.hd.w bN (p.x + i * p.dx) (p.y + y * p.dy) c)
def eb (f : Fl) (D : List Int) (n back : Nat) (p : Ps) : Nat → Nat → Nat → List Int → List Int → Option (Nat × List Int)
  | 0, _, at_, _, bN => some (at_, bN)
  | k + 1, y, at_, above, bN =>
    if 4 < D.getD at_ 0 then none
    else match dW f p y (eB (D.getD at_ 0) ((D.drop (at_ + 1)).take n) above back) p.w.toNat 0 bN with
    | none => none
    | some pix2 => eb f D n back p k (y + 1) (at_ + 1 + n) (eB (D.getD at_ 0) ((D.drop (at_ + 1)).take n) above back) pix2
def bitsOf (h : Hd) : Int := parts h.ar * h.dep
def eA (f : Fl) (D : List Int) : List Ps → Nat → List Int → Option (List Int)
  | [], _, bN => some bN
  | p :: l, at_, bN => match eb f D (dE p.w (bitsOf f.hd)).toNat (max 1 (bitsOf f.hd / 8)).toNat p p.h.toNat 0 at_ [] bN with
    | none => none
    | some (at2, pix2) => eA f D l at2 pix2
def aN (h : Hd) : List Ps := if h.ba then eW h.w h.h else whole h.w h.h
structure oN where
  w : Int
  h : Int
  bN : List Int
def dL : oN := ⟨0, 0, []⟩
def kt (B : List Int) (r : oN × Int) : Prop :=
  match cut B with
  | .error e => r = (dL, e)
  | .ok l =>
    if cJ l = false then r = (dL, 4)
    else if eJ ((l.map Ch.d).getD 0 []) ≠ 0 then r = (dL, eJ ((l.map Ch.d).getD 0 []))
    else if ¬ mb (aL ((l.map Ch.d).getD 0 [])) (bC l aT) (dV l aT) (bC l aQ) (dV l aQ) then r = (dL, 4)
    else ∃ q, aG.lR (bW l) (fh (aN (aL ((l.map Ch.d).getD 0 []))) (bitsOf (aL ((l.map Ch.d).getD 0 [])))) q ∧
      if q.2 ≠ 0 then r = (dL, q.2)
      else if (q.1.length : Int) < fh (aN (aL ((l.map Ch.d).getD 0 []))) (bitsOf (aL ((l.map Ch.d).getD 0 []))) then r = (dL, 2)
      else match eA ⟨aL ((l.map Ch.d).getD 0 []), bC l aT, bC l aQ⟩ q.1 (aN (aL ((l.map Ch.d).getD 0 []))) 0 (List.replicate (4 * (aL ((l.map Ch.d).getD 0 [])).w * (aL ((l.map Ch.d).getD 0 [])).h).toNat 0) with
        | none => r = (dL, 4)
        | some bN => r = (⟨(aL ((l.map Ch.d).getD 0 [])).w, (aL ((l.map Ch.d).getD 0 [])).h, bN⟩, 0)
end Go.aa
namespace Go.aa
open Go.af
theorem Ac {frm step e k : Int} (hs : step = 1 ∨ step = 2 ∨ step = 4 ∨ step = 8) (hk : 0 ≤ k) : frm + k * step < e ↔ k < many frm step e := by
  unfold many
  rcases hs with rfl | rfl | rfl | rfl <;> split <;> omega
theorem zB {frm step e : Int} (hs : step = 1 ∨ step = 2 ∨ step = 4 ∨ step = 8) : 0 ≤ many frm step e := by
  unfold many
  rcases hs with rfl | rfl | rfl | rfl <;> split <;> omega
theorem AU {frm step e : Int} (hf : 0 ≤ frm) (he : 0 ≤ e) (hs : step = 1 ∨ step = 2 ∨ step = 4 ∨ step = 8) : many frm step e ≤ e := by
  unfold many
  rcases hs with rfl | rfl | rfl | rfl <;> split <;> omega
theorem qI (B : List Int) (i : Nat) : 0 ≤ fK B i ∧ fK B i ≤ 1 := by unfold fK; omega
theorem lA (B : List Int) (at_ : Nat) : ∀ n : Nat, 0 ≤ bO B at_ n ∧ bO B at_ n < 2 ^ n
  | 0 => by simp [bO]
  | n + 1 => by
    have ih := lA B at_ n
    have hb := qI B (at_ + n)
    simp only [bO]
    have e : (2 : Int) ^ (n + 1) = 2 * 2 ^ n := by rw [Int.pow_succ]; omega
    rw [e]
    omega
theorem sw (B : List Int) (at_ m : Nat) : ∀ n, bO B at_ (m + n) = bO B at_ m * 2 ^ n + bO B (at_ + m) n
  | 0 => by simp [bO]
  | n + 1 => by
    have ih := sw B at_ m n
    have e : bO B at_ m * (2 ^ n * 2) = (bO B at_ m * 2 ^ n) * 2 := (Int.mul_assoc _ _ _).symm
    rw [← Nat.add_assoc, bO, ih, bO, Int.pow_succ, e, Nat.add_assoc]
    omega
theorem kg (B : List Int) (j k : Nat) (hk : k < 8) : fK B (8 * j + k) = B.getD j 0 / 2 ^ (7 - k) % 2 := by
  unfold fK
  rw [show (8 * j + k) / 8 = j by omega, show (8 * j + k) % 8 = k by omega]
theorem Gl (B : List Int) (a : Nat) : bO B a 8 = 2 * (2 * (2 * (2 * (2 * (2 * (2 * (2 * 0 + fK B (a + 0)) + fK B (a + 1)) + fK B (a + 2)) + fK B (a + 3)) + fK B (a + 4)) + fK B (a + 5)) + fK B (a + 6)) + fK B (a + 7) := rfl
theorem SJ {x : Int} (h : 0 ≤ x ∧ x < 256) : 2 * (2 * (2 * (2 * (2 * (2 * (2 * (2 * 0 + x / 128 % 2) + x / 64 % 2) + x / 32 % 2) + x / 16 % 2) + x / 8 % 2) + x / 4 % 2) + x / 2 % 2) + x / 1 % 2 = x := by omega
theorem lY {B : List Int} {j : Nat} (hb : 0 ≤ B.getD j 0 ∧ B.getD j 0 < 256) : bO B (8 * j) 8 = B.getD j 0 := by
  rw [Gl, kg B j 0 (by decide), kg B j 1 (by decide), kg B j 2 (by decide), kg B j 3 (by decide), kg B j 4 (by decide), kg B j 5 (by decide), kg B j 6 (by decide), kg B j 7 (by decide)]
  exact SJ hb
theorem qG {B : List Int} {j : Nat} (hb : 0 ≤ B.getD j 0 ∧ B.getD j 0 < 256) (hc : 0 ≤ B.getD (j + 1) 0 ∧ B.getD (j + 1) 0 < 256) : bO B (8 * j) 16 = B.getD j 0 * 256 + B.getD (j + 1) 0 := by
  have h := sw B (8 * j) 8 8
  rw [lY hb, show 8 * j + 8 = 8 * (j + 1) by omega, lY hc] at h
  simpa using h
end Go.aa
namespace Go.aa
open Go.af
def nm (n : Int) : List Int := [n / 16777216 % 256, n / 65536 % 256, n / 256 % 256, n % 256]
theorem Ah (n : Int) : (nm n).length = 4 := rfl
theorem zY (n : Int) : an (nm n) := fun x hx => by
  simp only [nm, List.mem_cons, List.not_mem_nil, or_false] at hx
  rcases hx with rfl | rfl | rfl | rfl <;> omega
theorem Ai {n : Int} (h : 0 ≤ n ∧ n < 4294967296) (r : List Int) : aG.cZ (nm n ++ r) = n := by
  simp only [aG.cZ, nm, List.cons_append, List.nil_append, List.getD_cons_zero, List.getD_cons_succ]
  omega
def e9 (c : Ch) : List Int := nm (c.d.length : Int) ++ (c.k ++ (c.d ++ nm (gf c.k c.d)))
theorem iu {c : Ch} (hk : c.k.length = 4) : (e9 c).length = 12 + c.d.length := by
  simp only [e9, List.length_append, Ah, hk]; omega
def jL (c : Ch) : Prop := df c.k ∧ an c.d ∧ c.d.length ≤ 2147483647
theorem qA {k : List Int} (h : df k) : an k := fun x hx => by
  have := h.2 x hx
  unfold jG at this; omega
theorem OL {k d : List Int} (hk : an k) (hd : an d) : 0 ≤ gf k d ∧ gf k d < 4294967296 := sS (sS (by decide) hk) hd
theorem Km {c : Ch} (h : jL c) : an (e9 c) := aH.an.app (zY _) (aH.an.app (qA h.1) (aH.an.app h.2.1 (zY _)))
theorem tv {c : Ch} (h : jL c) (r : List Int) : first (e9 c ++ r) = .ok c := by
  obtain ⟨hk, hd, hl⟩ := h
  have h4 := hk.1
  have hs := OL (qA hk) hd
  have e0 : e9 c ++ r = nm (c.d.length : Int) ++ (c.k ++ (c.d ++ (nm (gf c.k c.d) ++ r))) := by simp [e9]
  have d4 : (e9 c ++ r).drop 4 = c.k ++ (c.d ++ (nm (gf c.k c.d) ++ r)) := by rw [e0]; exact List.drop_left' rfl
  have e1 : ((e9 c ++ r).drop 4).take 4 = c.k := by rw [d4]; exact List.take_left' h4
  have d8 : (e9 c ++ r).drop 8 = c.d ++ (nm (gf c.k c.d) ++ r) := by
    rw [show 8 = 4 + 4 from rfl, ← List.drop_drop, d4]
    exact List.drop_left' h4
  have e2 : ((e9 c ++ r).drop 8).take c.d.length = c.d := by rw [d8]; exact List.take_left
  have e3 : (e9 c ++ r).drop (8 + c.d.length) = nm (gf c.k c.d) ++ r := by
    rw [← List.drop_drop, d8]; exact List.drop_left
  have e4 : aG.cZ (e9 c ++ r) = (c.d.length : Int) := by rw [e0]; exact Ai (by omega) _
  have e5 : (e9 c ++ r).length = 12 + c.d.length + r.length := by rw [List.length_append, iu h4]
  unfold first
  rw [if_neg (by omega), e4, Int.toNat_natCast, e1, if_neg (by rintro (h | h); omega; exact h hk), if_neg (by omega), e2, e3, Ai hs, if_pos rfl]
def gy (l : List Ch) : List Int := l.flatMap e9
theorem vg {e : Ch} (he : jL e) (hek : e.k = aY) : ∀ (l : List Ch) (f : Nat) (a : List Ch), (∀ c ∈ l, jL c ∧ c.k ≠ aY) → l.length < f → fy f (gy (l ++ [e])) a = .ok (a ++ (l ++ [e]))
  | [], f, a, _, hf => by
    obtain ⟨f, rfl⟩ : ∃ g, f = g + 1 := ⟨f - 1, by simp at hf; omega⟩
    have e1 : gy ([] ++ [e]) = e9 e ++ [] := by simp [gy]
    rw [e1, fy, tv he]
    simp only
    rw [if_pos hek, List.append_nil, iu he.1.1, Nat.sub_self, if_pos rfl]
    simp
  | c :: l, f, a, hl, hf => by
    obtain ⟨f, rfl⟩ : ∃ g, f = g + 1 := ⟨f - 1, by simp at hf; omega⟩
    have hc := hl c (by simp)
    have e1 : gy (c :: l ++ [e]) = e9 c ++ gy (l ++ [e]) := by simp [gy]
    have e2 : (e9 c ++ gy (l ++ [e])).drop (12 + c.d.length) = gy (l ++ [e]) := List.drop_left' (iu hc.1.1.1)
    rw [e1, fy, tv hc.1]
    simp only
    rw [if_neg hc.2, e2, vg he hek l f _ (fun x hx => hl x (by simp [hx])) (by simp at hf; omega)]
    simp
theorem qX : ∀ l : List Ch, (∀ c ∈ l, jL c) → l.length ≤ (gy l).length
  | [], _ => Nat.zero_le _
  | c :: l, h => by
    have ih := qX l (fun x hx => h x (by simp [hx]))
    have := iu (h c (by simp)).1.1
    have e : gy (c :: l) = e9 c ++ gy l := by simp [gy]
    rw [e, List.length_append, List.length_cons]
    omega
def aX (l : List Ch) : List Int := ea ++ gy l
theorem yd {l : List Ch} {e : Ch} (he : jL e) (hek : e.k = aY) (hl : ∀ c ∈ l, jL c ∧ c.k ≠ aY) (hn : (aX (l ++ [e])).length ≤ 262144) : cut (aX (l ++ [e])) = .ok (l ++ [e]) := by
  have h8 : (aX (l ++ [e])).length = 8 + (gy (l ++ [e])).length := by simp [aX, ea]; omega
  have e1 : (aX (l ++ [e])).take 8 = ea := List.take_left' rfl
  have e2 : (aX (l ++ [e])).drop 8 = gy (l ++ [e]) := List.drop_left' rfl
  have hge := qX (l ++ [e]) (fun c hc => by
    rcases List.mem_append.1 hc with h | h
    · exact (hl c h).1
    · rw [List.mem_singleton.1 h]; exact he)
  unfold cut
  rw [if_neg (by omega), if_neg (by omega), if_pos e1, e2]
  have := vg he hek l ((aX (l ++ [e])).length + 1) [] hl (by rw [List.length_append, List.length_singleton] at hge; omega)
  simpa using this
theorem vH {l : List Ch} (h : ∀ c ∈ l, jL c) : an (aX l) := by
  have hs : an ea := by unfold an; decide
  refine aH.an.app hs (fun x hx => ?_)
  obtain ⟨c, hc, hx⟩ := List.mem_flatMap.1 hx
  exact Km (h c hc) x hx
end Go.aa
namespace Go.aa
open Go.af
def du (l : List Ch) : List Int := (l.map Ch.d).getD 0 []
def oD (l : List Ch) : Fl := ⟨aL (du l), bC l aT, bC l aQ⟩
def want (h : Hd) : Int := fh (aN h) (bitsOf h)
def iZ (h : Hd) : List Int := List.replicate (4 * h.w * h.h).toNat 0
inductive Pw (B : List Int) (r : oN × Int) : Prop
  | cut (e : Int) (h : cut B = .error e) (hr : r = (dL, e))
  | ord (l : List Ch) (h : aa.cut B = .ok l) (ho : cJ l = false) (hr : r = (dL, 4))
  | head (l : List Ch) (h : aa.cut B = .ok l) (ho : cJ l = true) (hh : eJ (du l) ≠ 0) (hr : r = (dL, eJ (du l)))
  | table (l : List Ch) (h : aa.cut B = .ok l) (ho : cJ l = true) (hh : eJ (du l) = 0) (ht : ¬ mb (aL (du l)) (bC l aT) (dV l aT) (bC l aQ) (dV l aQ)) (hr : r = (dL, 4))
  | open_ (l : List Ch) (q : List Int × Int) (h : aa.cut B = .ok l) (ho : cJ l = true) (hh : eJ (du l) = 0) (ht : mb (aL (du l)) (bC l aT) (dV l aT) (bC l aQ) (dV l aQ)) (hq : aG.lR (bW l) (want (aL (du l))) q)
      (hr : (q.2 ≠ 0 ∧ r = (dL, q.2)) ∨ (q.2 = 0 ∧ (q.1.length : Int) < want (aL (du l)) ∧ r = (dL, 2)) ∨
        (q.2 = 0 ∧ want (aL (du l)) ≤ q.1.length ∧ eA (oD l) q.1 (aN (aL (du l))) 0 (iZ (aL (du l))) = none ∧ r = (dL, 4)) ∨
        ∃ bN, q.2 = 0 ∧ want (aL (du l)) ≤ q.1.length ∧ eA (oD l) q.1 (aN (aL (du l))) 0 (iZ (aL (du l))) = some bN ∧ r = (⟨(aL (du l)).w, (aL (du l)).h, bN⟩, 0))
theorem kt.ways {B : List Int} {r : oN × Int} (h : kt B r) : Pw B r := by
  unfold kt at h
  cases hc : cut B with
  | error e => rw [hc] at h; exact .cut e hc h
  | ok l =>
    rw [hc] at h
    simp only at h
    split at h
    · rename_i ho; exact .ord l hc ho h
    · rename_i ho
      have ho : cJ l = true := by simpa using ho
      split at h
      · rename_i hh; exact .head l hc ho hh h
      · rename_i hh
        have hh : eJ (du l) = 0 := by simpa [du] using hh
        split at h
        · rename_i ht; exact .table l hc ho hh ht h
        · rename_i ht
          have ht := Classical.not_not.1 ht
          obtain ⟨q, hq, h⟩ := h
          refine .open_ l q hc ho hh ht hq ?_
          split at h
          · rename_i h1; exact .inl ⟨h1, h⟩
          · rename_i h1
            have h1 : q.2 = 0 := by simpa using h1
            split at h
            · rename_i h2; exact .inr (.inl ⟨h1, h2, h⟩)
            · rename_i h2
              have h2 : want (aL (du l)) ≤ q.1.length := Int.not_lt.1 h2
              split at h
              · rename_i h3; exact .inr (.inr (.inl ⟨h1, h2, h3, h⟩))
              · rename_i bN h3; exact .inr (.inr (.inr ⟨bN, h1, h2, h3, h⟩))
theorem we : ∀ {f : Nat} {L : List Int} {a l : List Ch}, an L → (∀ c ∈ a, an c.d) → fy f L a = .ok l → ∀ c ∈ l, an c.d
  | 0, L, a, l, _, _, h => by cases h
  | f + 1, L, a, l, hL, ha, h => by
    rw [fy] at h
    split at h
    · cases h
    · rename_i c hc
      have hd : an c.d := by
        unfold first at hc
        split at hc
        · cases hc
        · split at hc
          · cases hc
          · split at hc
            · cases hc
            · split at hc
              · cases hc
                exact fun x hx => hL x (List.mem_of_mem_drop (List.mem_of_mem_take hx))
              · cases hc
      have ha2 : ∀ y ∈ a ++ [c], an y.d := fun y hy => by
        rcases List.mem_append.1 hy with hy | hy
        · exact ha y hy
        · rw [List.mem_singleton.1 hy]; exact hd
      split at h
      · split at h
        · cases h; exact ha2
        · cases h
      · exact we (fun x hx => hL x (List.mem_of_mem_drop hx)) ha2 h
theorem iY {B : List Int} {l : List Ch} (hB : an B) (h : cut B = .ok l) : ∀ c ∈ l, an c.d := by
  unfold cut at h
  split at h
  · cases h
  · split at h
    · cases h
    · split at h
      · exact we (fun x hx => hB x (List.mem_of_mem_drop hx)) (fun c hc => by cases hc) h
      · cases h
theorem rF {l : List Ch} (h : ∀ c ∈ l, an c.d) : an (bW l) := fun x hx => by
  obtain ⟨c, hc, hx⟩ := List.mem_flatMap.1 hx
  exact h c (List.mem_filter.1 hc).1 x hx
end Go.aa

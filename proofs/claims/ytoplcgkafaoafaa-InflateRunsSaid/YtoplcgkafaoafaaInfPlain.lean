/-
  Inflate, plainly: a machine that goes on by something.
-/
import Derived.Test.YtoplcgkafaoafaaM27
namespace Go.InfP
set_option linter.unusedVariables false
open Go.BitP Go.HuffP
set_option linter.unusedVariables false
set_option linter.unusedSimpArgs false
/-- The machine: where it reads, what is out; of the block: its kind (none: -1), what is left of a stored one, whether it is the last, its codes; what is still to be found again, and how far back. -/
structure St where
  at_ : Nat
  out : List Int
  kind : Int
  left : Nat
  last : Bool
  lits : List Int
  dist : List Int
  copies : Nat
  far : Nat
  ended : Bool
def fixL : List Int := List.replicate 144 8 ++ List.replicate 112 9 ++ List.replicate 24 7 ++ List.replicate 8 8
def fixD : List Int := List.replicate 32 5
def sym (ls B : List Int) (a : Nat) : Except Int (Int × Nat) := match tk ls B a with
  | .hit n s => .ok (s, a + n)
  | .short _ => .error 2
  | .none_ _ => .error 4
def alg (a : Nat) : Nat := (a + 7) / 8 * 8
def ordr : List Int := [16, 17, 18, 0, 8, 7, 9, 6, 10, 5, 11, 4, 12, 3, 13, 2, 14, 1, 15]
def frs (B : List Int) (a : Nat) : Nat → List Int
  | 0 => List.replicate 19 0
  | i + 1 => (frs B a i).set (ordr.getD i 0).toNat (numL B (a + 3 * i) 3)
/-- How many bits say how often a length is repeated, how often at least. -/
def rpB (s : Int) : Nat := if s = 16 then 2 else if s = 17 then 3 else 7
def rpL (s : Int) : Int := if s = 18 then 11 else 3
def rpW (s : Int) (l : List Int) : Int := if s = 16 then l.getD (l.length - 1) 0 else 0
def rep (B : List Int) (s : Int) (l : List Int) (a : Nat) : Except Int (Int × Int × Nat) :=
  if s < 16 then .ok (s, 1, a) else if 8 * B.length < a + rpB s then .error 2 else if s = 16 ∧ l = [] then .error 4 else .ok (rpW s l, rpL s + numL B a (rpB s), a + rpB s)
def lnStep (B c l : List Int) (a : Nat) : Except Int (List Int × Nat) := match sym c B a with
  | .error e => .error e
  | .ok (s, a) => match rep B s l a with
    | .error e => .error e
    | .ok (x, n, a) => .ok (l ++ List.replicate n.toNat x, a)
def lnGo (B c : List Int) (tot : Nat) : Nat → List Int → Nat → Except Int (List Int × Nat)
  | 0, l, a => .ok (l, a)
  | f + 1, l, a => if l.length < tot then (match lnStep B c l a with
    | .error e => .error e
    | .ok (l', a') => if l'.length ≤ tot then lnGo B c tot f l' a' else .error 4) else .ok (l, a)
def hL (B : List Int) (a : Nat) : Nat := 257 + (numL B a 5).toNat
def hD (B : List Int) (a : Nat) : Nat := 1 + (numL B (a + 5) 5).toNat
def hC (B : List Int) (a : Nat) : Nat := 4 + (numL B (a + 10) 4).toNat
/-- The codes that a block tells. -/
def told (B : List Int) (a : Nat) : Except Int (Nat × List Int × List Int) :=
  if 8 * B.length < a + 14 then .error 2 else
  if ¬ (hL B a ≤ 286 ∧ hD B a ≤ 30) then .error 4 else
  if 8 * B.length < a + 14 + 3 * hC B a then .error 2 else
  if newE (frs B (a + 14) (hC B a)) ≠ 0 then .error 4 else
  match lnGo B (frs B (a + 14) (hC B a)) (hL B a + hD B a) (hL B a + hD B a) [] (a + 14 + 3 * hC B a) with
  | .error e => .error e
  | .ok (l, a') => if newE (l.take (hL B a)) ≠ 0 ∨ newE (l.drop (hL B a)) ≠ 0 ∨ l.getD 256 0 = 0 then .error 4 else .ok (a', l.take (hL B a), l.drop (hL B a))
def begin_ (B : List Int) (s : St) : Except Int St :=
  if 8 * B.length < s.at_ + 3 then .error 2 else
  if numL B (s.at_ + 1) 2 = 0 then
    (if 8 * B.length < alg (s.at_ + 3) + 32 then .error 2 else
     if numL B (alg (s.at_ + 3)) 16 = 65535 - numL B (alg (s.at_ + 3) + 16) 16 then .ok { s with at_ := alg (s.at_ + 3) + 32, kind := 0, left := (numL B (alg (s.at_ + 3)) 16).toNat, last := decide (numL B s.at_ 1 = 1) } else .error 4) else
  if numL B (s.at_ + 1) 2 = 1 then .ok { s with at_ := s.at_ + 3, kind := 1, last := decide (numL B s.at_ 1 = 1), lits := fixL, dist := fixD } else
  if numL B (s.at_ + 1) 2 = 2 then (match told B (s.at_ + 3) with
    | .error e => .error e
    | .ok (a, l, d) => .ok { s with at_ := a, kind := 2, last := decide (numL B s.at_ 1 = 1), lits := l, dist := d }) else .error 4
def lnB (s : Int) : Int := if s < 8 then 3 + s else if s = 28 then 258 else 3 + (4 + s % 4) * 2 ^ (s / 4 - 1).toNat
def lnM (s : Int) : Nat := if s < 8 ∨ s = 28 then 0 else (s / 4 - 1).toNat
def dsB (d : Int) : Int := if d < 4 then 1 + d else 1 + (2 + d % 2) * 2 ^ (d / 2 - 1).toNat
def dsM (d : Int) : Nat := if d < 4 then 0 else (d / 2 - 1).toNat
def put_ (most : Int) (s : St) (y : Int) : Except Int St := if (s.out.length : Int) < most then .ok { s with out := s.out ++ [y] } else .error 6
def coded (B : List Int) (most : Int) (s : St) : Except Int St := match sym s.lits B s.at_ with
  | .error e => .error e
  | .ok (y, a) =>
    if y < 256 then put_ most { s with at_ := a } y else
    if y = 256 then .ok { s with at_ := a, kind := -1, ended := s.last } else
    if 286 ≤ y then .error 4 else
    if 8 * B.length < a + lnM (y - 257) then .error 2 else
    match sym s.dist B (a + lnM (y - 257)) with
    | .error e => .error e
    | .ok (d, a3) => if 30 ≤ d then .error 4 else if 8 * B.length < a3 + dsM d then .error 2 else
      if dsB d + numL B a3 (dsM d) ≤ s.out.length then .ok { s with at_ := a3 + dsM d, copies := (lnB (y - 257) + numL B a (lnM (y - 257))).toNat, far := (dsB d + numL B a3 (dsM d)).toNat } else .error 4
/-- It goes on by something. -/
def one (B : List Int) (most : Int) (s : St) : Except Int St :=
  if 0 < s.copies then put_ most { s with copies := s.copies - 1 } (s.out.getD (s.out.length - s.far) 0) else
  if s.kind = -1 then begin_ B s else
  if s.kind ≠ 0 then coded B most s else
  if s.left = 0 then .ok { s with kind := -1, ended := s.last } else
  if 8 * B.length < s.at_ + 8 then .error 2 else put_ most { s with at_ := s.at_ + 8, left := s.left - 1 } (numL B s.at_ 8)
def start : St := ⟨0, [], -1, 0, false, [], [], 0, 0, false⟩
abbrev Oc := Except Int (List Int × Nat)
/-- What comes of it. -/
inductive Runs (B : List Int) (most : Int) : St → Oc → Prop
  | done {s : St} : s.ended = true → Runs B most s (.ok (s.out, (s.at_ + 7) / 8))
  | step {s s' : St} {o : Oc} : s.ended = false → one B most s = .ok s' → Runs B most s' o → Runs B most s o
  | fail {s : St} {e : Int} : s.ended = false → one B most s = .error e → Runs B most s (.error e)
theorem Runs.det {B : List Int} {most : Int} {s : St} {o : Oc} (h : Runs B most s o) : ∀ {o' : Oc}, Runs B most s o' → o = o' := by
  induction h with
  | done h1 => intro o' h; cases h with
    | done _ => rfl
    | step h2 _ _ => rw [h1] at h2; cases h2
    | fail h2 _ => rw [h1] at h2; cases h2
  | step h1 h2 h3 ih => intro o' h; cases h with
    | done h4 => rw [h1] at h4; cases h4
    | step _ h5 h6 => rw [h2] at h5; cases h5; exact ih h6
    | fail _ h5 => rw [h2] at h5; cases h5
  | fail h1 h2 => intro o' h; cases h with
    | done h4 => rw [h1] at h4; cases h4
    | step _ h5 h6 => rw [h2] at h5; cases h5
    | fail _ h5 => rw [h2] at h5; cases h5; rfl
/-- From the one it comes to the other. -/
def Goes (B : List Int) (most : Int) (s s' : St) : Prop := ∀ o, Runs B most s' o → Runs B most s o
theorem Goes.refl (B : List Int) (most : Int) (s : St) : Goes B most s s := fun _ h => h
theorem Goes.trans {B : List Int} {most : Int} {s s' s'' : St} (h : Goes B most s s') (k : Goes B most s' s'') : Goes B most s s'' := fun o r => h o (k o r)
theorem Goes.one {B : List Int} {most : Int} {s s' : St} (h : s.ended = false) (k : one B most s = .ok s') : Goes B most s s' := fun o r => .step h k r
theorem Goes.next {B : List Int} {most : Int} {s s' s'' : St} (g : Goes B most s s') (h : s'.ended = false) (k : InfP.one B most s' = .ok s'') : Goes B most s s'' := g.trans (.one h k)
theorem Goes.fail {B : List Int} {most : Int} {s s' : St} {e : Int} (g : Goes B most s s') (h : s'.ended = false) (k : InfP.one B most s' = .error e) : Runs B most s (.error e) := g _ (.fail h k)
def codeE (ls : List Int) : Except Int Unit := if newE ls = 0 then .ok () else .error 4
section
variable {B l : List Int} {s : Int} {a : Nat}
theorem rep_lt (h : s < 16) : rep B s l a = .ok (s, 1, a) := if_pos h
theorem rep_short (h : ¬ s < 16) (hx : 8 * B.length < a + rpB s) : rep B s l a = .error 2 := by unfold rep; rw [if_neg h, if_pos hx]
theorem rep_form (h : s = 16) (hl : l = []) (hx : ¬ 8 * B.length < a + rpB s) : rep B s l a = .error 4 := by unfold rep; rw [if_neg (by omega), if_neg hx, if_pos ⟨h, hl⟩]
theorem rep_ok (h : ¬ s < 16) (hx : ¬ 8 * B.length < a + rpB s) (hl : ¬ (s = 16 ∧ l = [])) : rep B s l a = .ok (rpW s l, rpL s + numL B a (rpB s), a + rpB s) := by unfold rep; rw [if_neg h, if_neg hx, if_neg hl]
end
theorem frs_len (B : List Int) (a : Nat) : ∀ k, (frs B a k).length = 19
  | 0 => by simp [frs]
  | k + 1 => by simp [frs, frs_len B a k]
theorem fixL_ok : newE fixL = 0 := by decide +kernel
theorem fixD_ok : newE fixD = 0 := by decide +kernel
def fixT : List (Int × Int) := [(8, 144), (9, 112), (7, 24), (8, 8)]
def fixK : Nat → List Int
  | 0 => []
  | k + 1 => fixK k ++ List.replicate (fixT.getD k (0, 0)).2.toNat (fixT.getD k (0, 0)).1
theorem fixK_4 : fixK 4 = fixL := by decide +kernel
theorem fixK_le : ∀ k, k ≤ 4 → (fixK k).length ≤ 288 := by
  intro k hk
  have : k = 0 ∨ k = 1 ∨ k = 2 ∨ k = 3 ∨ k = 4 := by omega
  rcases this with rfl | rfl | rfl | rfl | rfl <;> decide +kernel
theorem ordr_at {k : Nat} (h : k < 19) : 0 ≤ ordr.getD k 0 ∧ ordr.getD k 0 < 19 := by
  have : ∀ k, k < 19 → 0 ≤ ordr.getD k 0 ∧ ordr.getD k 0 < 19 := by decide
  exact this k h
theorem hd_eqs (B : List Int) (a : Nat) : 257 + numL B a 5 = (hL B a : Int) ∧ 1 + numL B (a + 5) 5 = (hD B a : Int) ∧ 4 + numL B (a + 10) 4 = (hC B a : Int) ∧ hL B a ≤ 288 ∧ hD B a ≤ 32 ∧ hC B a ≤ 19 ∧ 4 ≤ hC B a ∧ 257 ≤ hL B a := by
  have h1 := numL_bound B a 5
  have h2 := numL_bound B (a + 5) 5
  have h3 := numL_bound B (a + 10) 4
  unfold hL hD hC
  omega
end Go.InfP

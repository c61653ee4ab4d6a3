/- Walks of functions that the law reaches, and what they lean on; no conditions. -/
import Derived.Test.YtookicfejdbddaaGreatM6
import Derived.KernelRfl
import Derived.Test.YtookicfejdbddaaGreatUiBase
import Derived.Test.YtookicfejdbddaaGreatSl24
set_option linter.unusedVariables false
set_option linter.unusedSimpArgs false
set_option linter.unnecessarySimpa false
set_option maxRecDepth 100000
namespace Go.InfP
open Go.BitP Go.HuffP
section
variable {B c l l' : List Int} {tot f a a' : Nat} {e s x n : Int}
end
def toldC (B : List Int) (a : Nat) : List Int := frs B (a + 14) (hC B a)
def toldN (B : List Int) (a : Nat) : Nat := hL B a + hD B a
def toldA (B : List Int) (a : Nat) : Nat := a + 14 + 3 * hC B a
section
variable {B l : List Int} {a a' : Nat} {e : Int}
end
end Go.InfP
namespace Go.InfP
open Go.BitP
end Go.InfP
namespace Go.InfP
end Go.InfP
namespace Go.InfP
open Go.BitP Go.HuffP
def lenE (B : List Int) (s : Int) (a : Nat) : Except Int (Int × Nat) := if 29 ≤ s then .error 4 else if 8 * B.length < a + lnM s then .error 2 else .ok (lnB s + numL B a (lnM s), a + lnM s)
def awayE (B ds : List Int) (a : Nat) : Except Int (Int × Nat) := match sym ds B a with
  | .error e => .error e
  | .ok (d, a3) => if 30 ≤ d then .error 4 else if 8 * B.length < a3 + dsM d then .error 2 else .ok (dsB d + numL B a3 (dsM d), a3 + dsM d)
section
variable {B : List Int} {s : Int} {a : Nat}
def lnK (s : Int) : Nat := (s / 4 - 1).toNat
def dsK (s : Int) : Nat := (s / 2 - 1).toNat
end
section
variable {B ds : List Int} {s e : Int} {a a3 : Nat}
end
section
variable {B : List Int} {s : St} {e : Int}
end
section
variable {B : List Int} {most : Int} {s : St} {y n f e : Int} {a a2 a3 : Nat}
end
end Go.InfP
namespace Go.InfP
open Go.BitP Go.HuffP
structure Ok (B : List Int) (mo : Int) (s : St) : Prop where
  at_ : s.at_ ≤ 8 * B.length
  room : (s.out.length : Int) ≤ mo
  byt : Byt s.out
  kind : s.kind = -1 ∨ s.kind = 0 ∨ s.kind = 1 ∨ s.kind = 2
  left : s.left < 65536
  codes : 0 < s.kind → newE s.lits = 0 ∧ newE s.dist = 0 ∧ 0 < s.lits.length ∧ 0 < s.dist.length
  copies : s.copies < 400
  far : 0 < s.copies → 1 ≤ s.far ∧ s.far ≤ s.out.length
end Go.InfP
namespace Go.InfP
open Go.BitP Go.HuffP
end Go.InfP
namespace Go.InfP
open Go.BitP Go.HuffP
section
variable {B : List Int} {mo y e : Int} {s s2 : St} {at_ : Nat}
end
end Go.InfP
namespace Go.InfP
open Go.BitP Go.HuffP
def mu (B : List Int) (s : St) : Nat := (8 * B.length - s.at_) * 1000 + s.copies + (if s.kind = -1 then 0 else 1)
structure Good (B : List Int) (mo : Int) (s s2 : St) : Prop where
  ok : Ok B mo s2
  less : mu B s2 < mu B s
  le : s.out.length ≤ s2.out.length
  one : s2.out.length ≤ s.out.length + 1
inductive Lp (B : List Int) (mo : Int) (w : Nat) (n : Int) : St → Except Int St → Prop
  | stop {s : St} : (s.ended = true ∨ n ≤ (s.out.length : Int) - w) → Lp B mo w n s (.ok s)
  | step {s s' : St} {o : Except Int St} : s.ended = false → (s.out.length : Int) - w < n → one B mo s = .ok s' → Lp B mo w n s' o → Lp B mo w n s o
  | fail {s : St} {e : Int} : s.ended = false → (s.out.length : Int) - w < n → one B mo s = .error e → Lp B mo w n s (.error e)
abbrev Jt := Except Int St
def endJ : Jt → Bool
  | .ok s => s.ended
  | .error _ => true
def outJ : Jt → List Int
  | .ok s => if s.ended = true then s.out else []
  | .error _ => []
def errJ : Jt → Int
  | .ok _ => 0
  | .error e => e
def usedJ : Jt → Int
  | .ok s => if s.ended = true then ((s.at_ + 7) / 8 : Nat) else 0
  | .error _ => 0
def OkJ (B : List Int) (mo : Int) : Jt → Prop
  | .ok s => Ok B mo s
  | .error e => e ≠ 0
def StepJ (B : List Int) (mo n : Int) (r r' : Jt) : Prop := ((n < 1 ∨ endJ r = true) ∧ r' = r) ∨ (1 ≤ n ∧ ∃ s, r = .ok s ∧ s.ended = false ∧ Lp B mo s.out.length n s r')
def AtJ (B : List Int) (mo : Int) (s0 : St) : Jt → Prop
  | .ok s => Goes B mo s0 s
  | .error e => Runs B mo s0 (.error e)
def Ou : Oc → List Int × Int × Int
  | .ok (x, n) => (x, (n : Int), 0)
  | .error e => ([], 0, e)
end Go.InfP
namespace Go.InfP
section
variable {B : List Int} {mo n e : Int} {w : Nat} {s s2 : St} {o : Except Int St}
end
end Go.InfP
namespace Go.InfP
open Go.BitP Go.HuffP
section
variable {B : List Int} {mo e : Int}
end
def muJ (B : List Int) : Jt → Nat
  | .ok s => mu B s + 1
  | .error _ => 0
def lenJ : Jt → Nat
  | .ok s => s.out.length
  | .error _ => 0
structure GoodJ (B : List Int) (mo : Int) (s0 : St) (n : Int) (r r' : Jt) : Prop where
  ok : OkJ B mo r'
  at_ : AtJ B mo s0 r'
  le : muJ B r' ≤ muJ B r
  less : endJ r = false → 1 ≤ n → muJ B r' < muJ B r
  out : endJ r = false → 1 ≤ n → endJ r' = true ∨ lenJ r + 1 ≤ lenJ r'
  stay : (n < 1 ∨ endJ r = true) → r' = r
def Res (B : List Int) (mo : Int) (q : List Int × Int × Int) : Prop := (mo < 0 ∧ q = ([], 0, 1)) ∨ (0 ≤ mo ∧ ∃ o, Runs B mo start o ∧ q = Ou o)
end Go.InfP
namespace Go.InfP
open Go.BitP Go.HuffP
def newJ (mo : Int) : Jt := if mo < 0 then .error 1 else .ok start
structure Way (B : List Int) (mo : Int) (r : Jt) : Prop where
  ok : OkJ B mo r
  at_ : (0 ≤ mo ∧ AtJ B mo start r) ∨ (mo < 0 ∧ r = .error 1)
structure WayS (B : List Int) (mo n : Int) (r r' : Jt) : Prop where
  way : Way B mo r'
  out : endJ r = false → 1 ≤ n → endJ r' = true ∨ lenJ r + 1 ≤ lenJ r'
  stay : (n < 1 ∨ endJ r = true) → r' = r
end Go.InfP
namespace Go.InfP
open Go.BitP Go.HuffP
end Go.InfP
namespace Go.InfP
open Go.BitP Go.HuffP
def baseT : List Int := [3, 4, 5, 6, 7, 8, 9, 10, 11, 13, 15, 17, 19, 23, 27, 31, 35, 43, 51, 59, 67, 83, 99, 115, 131, 163, 195, 227, 258]
def moreT : List Int := [0, 0, 0, 0, 0, 0, 0, 0, 1, 1, 1, 1, 2, 2, 2, 2, 3, 3, 3, 3, 4, 4, 4, 4, 5, 5, 5, 5, 0]
structure Dn (B : List Int) (mo : Int) (S S' : St) : Prop where
  goes : Goes B mo S S'
  ok : Ok B mo S'
  kind : S'.kind = -1
  copies : S'.copies = 0
  ended : S'.ended = S'.last
  last : S'.last = S.last
structure In (B : List Int) (mo : Int) (S s : St) : Prop where
  goes : Goes B mo S s
  ok : Ok B mo s
  kind : s.kind = S.kind
  copies : s.copies = 0
  ended : s.ended = false
  last : s.last = S.last
  lits : s.lits = S.lits
  dist : s.dist = S.dist
section
variable {B : List Int} {mo e : Int} {S s s2 : St}
end
end Go.InfP
namespace Go.InfP
open Go.BitP Go.HuffP
inductive Bl (B : List Int) (mo : Int) : St → Except Int St → Prop
  | done {s : St} : s.kind = -1 → Bl B mo s (.ok s)
  | step {s s' : St} {o : Except Int St} : ¬ s.kind = -1 → one B mo s = .ok s' → Bl B mo s' o → Bl B mo s o
  | fail {s : St} {e : Int} : ¬ s.kind = -1 → one B mo s = .error e → Bl B mo s (.error e)
section
variable {B : List Int} {mo e : Int} {s s2 : St} {o : Except Int St}
structure Left (B : List Int) (mo : Int) (s s2 : St) : Prop where
  goes : Goes B mo s s2
  ok : Ok B mo s2
  kind : s2.kind = -1
  copies : s2.copies = 0
  ended : s2.ended = s2.last
  last : s2.last = s.last
  less : mu B s2 ≤ mu B s
end
def BO (B : List Int) (mo : Int) (S : St) (o : Except Int St) : Prop := (∃ e, begin_ B S = .error e ∧ o = .error e) ∨ (∃ S1, begin_ B S = .ok S1 ∧ Bl B mo S1 o)
section
variable {B : List Int} {mo e : Int} {S S1 : St} {o : Except Int St}
end
section
variable {B ds : List Int} {s d : Int} {a a3 n : Nat}
end
end Go.InfP
namespace Go.InfP
end Go.InfP
namespace Go.InfP
end Go.InfP
namespace Go.InfP
open Go.BitP
end Go.InfP
namespace Go.InfP
open Go.BitP Go.HuffP
def run (B : List Int) (mo : Int) : Nat → St → Option Oc
  | 0, _ => none
  | f + 1, s => if s.ended = true then some (.ok (s.out, (s.at_ + 7) / 8)) else match one B mo s with
    | .error e => some (.error e)
    | .ok s' => run B mo f s'
def runB (B : List Int) (mo : Int) (f : Nat) (q : List Int × Int × Int) : Bool := match run B mo f start with
  | some o => decide (Ou o = q)
  | none => false
end Go.InfP
namespace Go.InfP
end Go.InfP
namespace Go.InfP
open Go.BitP Go.HuffP
section
variable {B : List Int} {mo mo' y : Int} {s s2 : St}
end
end Go.InfP
namespace Go.InfP
open Go.BitP Go.HuffP
section
variable {B : List Int}
def blkB (la : Int) (X : List Int) : List Int := [la, (X.length : Int) % 256, (X.length : Int) / 256, 255 - (X.length : Int) % 256, 255 - (X.length : Int) / 256] ++ X
def blks : List (List Int) → List Int
  | [] => []
  | [X] => blkB 1 X
  | X :: Y :: L => blkB 0 X ++ blks (Y :: L)
end
def blkI (L : List (List Int)) : Nat → List Int
  | 0 => []
  | i + 1 => blkI L i ++ blkB (if i + 1 = L.length then 1 else 0) (L.getD i [])
end Go.InfP
namespace Go.InfP
open Go.BitP Go.HuffP
structure Bk (L : List (List Int)) (i : Nat) : Prop where
  le : i ≤ L.length
  few : ∀ j, j < i → (L.getD j []).length ≤ 1000
  byt : ∀ j, j < i → Byt (L.getD j [])
  wlen : (L.take i).flatten.length ≤ 1000 * i
  blen : (blkI L i).length ≤ 1005 * i
end Go.InfP
namespace Go.BitP
structure Po (bs : List Int) (i : Nat) (o : List Int) : Prop where
  len : o.length = (bs.length + 7) / 8
  byt : Byt o
  get : ∀ k, k < i → bitL o k = bs.getD k 0
  zero : ∀ k, i ≤ k → bitL o k = 0
end Go.BitP
namespace Go.InfP
open Go.BitP Go.HuffP
def fxX (s : Int) : Int := if 280 ≤ s then 192 + s - 280 else if 256 ≤ s then s - 256 else if 144 ≤ s then 400 + s - 144 else 48 + s
def fxN (s : Int) : Nat := if 280 ≤ s then 8 else if 256 ≤ s then 7 else if 144 ≤ s then 9 else 8
structure Pq (bs o : List Int) : Prop where
  byt : Byt o
  len : bs.length ≤ 8 * o.length
  get : ∀ i, i < bs.length → bitL o i = bs.getD i 0
section
variable {bs o u w r out : List Int} {mo s y d : Int} {z : St}
structure Rd (o : List Int) (mo : Int) (z : St) (a : Nat) (out : List Int) : Prop where
  goes : Goes o mo start z
  at_ : z.at_ = a
  out : z.out = out
  kind : z.kind = 1
  copies : z.copies = 0
  ended : z.ended = false
  last : z.last = true
  lits : z.lits = fixL
  dist : z.dist = fixD
def cpy (d : Nat) : Nat → List Int → List Int
  | 0, l => l
  | k + 1, l => cpy d k (l ++ [l.getD (l.length - d) 0])
def rowB (n d : Int) : List Int := wb fixL (254 + n) ++ wb fixD (d - 1)
end
def rowsB (d : Int) : List Int → List Int
  | [] => []
  | m :: l => rowB (3 + m % 8) d ++ rowsB d l
def rowsO (d : Int) : List Int → List Int → List Int
  | [], out => out
  | m :: l, out => rowsO d l (cpy d.toNat (3 + m % 8).toNat out)
def runsB (head : List Int) (d : Int) (l : List Int) : List Int := lowB 3 3 ++ HuffP.bits fixL head ++ rowsB d l
end Go.InfP
namespace Go.InfP
open Go.BitP Go.HuffP
def B01 (l : List Int) : Prop := ∀ x ∈ l, 0 ≤ x ∧ x ≤ 1
end Go.InfP
namespace Go.InfP
open Go.BitP Go.HuffP
end Go.InfP
namespace Go.DefP
open Go.BitP Go.HuffP Go.InfP
def x3 (x y z : Int) : Int := IntKind.u32.wrap ((BitVec.ofInt IntKind.u32.bits (IntKind.u32.wrap ((BitVec.ofInt IntKind.u32.bits (IntKind.u32.wrap (x * 2 ^ (min (16 : Int).toNat IntKind.u32.bits))) ||| BitVec.ofInt IntKind.u32.bits (IntKind.u32.wrap (y * 2 ^ (min (8 : Int).toNat IntKind.u32.bits)))).toNat : Int)) ||| BitVec.ofInt IntKind.u32.bits z).toNat : Int)
def hs3 (x y z : Int) : Int := (IntKind.u32.wrap (x3 x y z * 2654435761)).fdiv (2 ^ (min (19 : Int).toNat IntKind.u32.bits))
theorem u32_in (x : Int) : 0 ≤ IntKind.u32.wrap x ∧ IntKind.u32.wrap x < 4294967296 := by
  have e : IntKind.u32.wrap x = x % 4294967296 := by simp [IntKind.wrap, IntKind.bits, IntKind.signed]
  rw [e]; omega
theorem hs3_in (x y z : Int) : 0 ≤ hs3 x y z ∧ hs3 x y z < 8192 := by
  unfold hs3
  have h := u32_in (x3 x y z * 2654435761)
  have e : (2 : Int) ^ (min (19 : Int).toNat IntKind.u32.bits) = 524288 := by decide
  rw [e, Int.fdiv_eq_ediv_of_nonneg _ (by decide)]
  omega
def hs (B : List Int) (a : Nat) : Int := hs3 (B.getD a 0) (B.getD (a + 1) 0) (B.getD (a + 2) 0)
theorem hs_in (B : List Int) (a : Nat) : 0 ≤ hs B a ∧ hs B a < 8192 := hs3_in _ _ _
structure Fd where
  hd : List Int
  nx : List Int
def putP (B : List Int) (f : Fd) (a : Nat) : Fd := if B.length < a + 3 then f else ⟨f.hd.set (hs B a).toNat (a : Int), f.nx.set a (f.hd.getD (hs B a).toNat 0)⟩
def putsP (B : List Int) (f : Fd) (a : Nat) : Nat → Fd
  | 0 => f
  | k + 1 => putP B (putsP B f a k) (a + k)
def alkGo (B : List Int) (old a : Nat) : Nat → Nat → Nat
  | 0, n => n
  | f + 1, n => if a + n < B.length ∧ B.getD (old + n) 0 = B.getD (a + n) 0 then alkGo B old a f (n + 1) else n
def alk (B : List Int) (old a : Nat) : Nat := alkGo B old a 258 0
def findGo (B nx : List Int) (a : Nat) : Nat → Int → Int → Int → Int × Int
  | 0, _, n, far => (n, far)
  | t + 1, old, n, far => if old = -1 ∨ 32768 < (a : Int) - old then (n, far) else
    if n < (alk B old.toNat a : Int) then findGo B nx a t (nx.getD old.toNat 0) (alk B old.toNat a) ((a : Int) - old) else findGo B nx a t (nx.getD old.toNat 0) n far
def findP (B : List Int) (f : Fd) (a : Nat) : Int × Int := if B.length < a + 3 then (0, 0) else findGo B f.nx a 24 (f.hd.getD (hs B a).toNat 0) 0 0
structure Tok where
  lit : Int
  n : Int
  far : Int
def tokGo (B : List Int) : Nat → Fd → Nat → List Tok
  | 0, _, _ => []
  | q + 1, f, a => if a < B.length then
      (if (findP B f a).1 < 3 then ⟨B.getD a 0, 0, 0⟩ :: tokGo B q (putsP B f a 1) (a + 1)
       else ⟨0, (findP B f a).1, (findP B f a).2⟩ :: tokGo B q (putsP B f a (findP B f a).1.toNat) (a + (findP B f a).1.toNat)) else []
def fd0 (B : List Int) : Fd := ⟨List.replicate 8192 (-1), List.replicate B.length 0⟩
def toks (B : List Int) : List Tok := tokGo B B.length (fd0 B) 0
theorem alkGo_end {B : List Int} {old a f n : Nat} (h : ¬ (a + n < B.length ∧ B.getD (old + n) 0 = B.getD (a + n) 0)) : alkGo B old a f n = n := by
  cases f with
  | zero => rfl
  | succ f => simp only [alkGo]; rw [if_neg h]
theorem alkGo_next {B : List Int} {old a n : Nat} (hn : n < 258) (h : a + n < B.length ∧ B.getD (old + n) 0 = B.getD (a + n) 0) : alkGo B old a (258 - n) n = alkGo B old a (258 - (n + 1)) (n + 1) := by
  rw [show 258 - n = (258 - (n + 1)) + 1 by omega]
  simp only [alkGo]
  rw [if_pos h]
structure Alk (B : List Int) (old a n : Nat) : Prop where
  le : n ≤ 258
  room : a + n ≤ B.length ∨ n = 0
  same : ∀ i, i < n → B.getD (old + i) 0 = B.getD (a + i) 0
theorem alkGo_ok {B : List Int} {old a : Nat} : ∀ (f n : Nat), n + f ≤ 258 → Alk B old a n → Alk B old a (alkGo B old a f n)
  | 0, n, _, h => h
  | f + 1, n, hf, h => by
    simp only [alkGo]
    split
    · rename_i hc
      refine alkGo_ok f (n + 1) (by omega) ⟨by omega, .inl (by omega), fun i hi => ?_⟩
      rcases Nat.lt_or_ge i n with h1 | h1
      · exact h.same i h1
      · obtain rfl : i = n := by omega
        exact hc.2
    · exact h
theorem alk_ok (B : List Int) (old a : Nat) : Alk B old a (alk B old a) := alkGo_ok 258 0 (by omega) ⟨by omega, .inr rfl, fun i h => by omega⟩
structure Fok (B : List Int) (n : Nat) (f : Fd) : Prop where
  hl : f.hd.length = 8192
  nl : f.nx.length = B.length
  h : ∀ i, i < 8192 → -1 ≤ f.hd.getD i 0 ∧ f.hd.getD i 0 < n
  x : ∀ i, i < B.length → -1 ≤ f.nx.getD i 0 ∧ (f.nx.getD i 0 < n ∨ f.nx.getD i 0 = 0)
theorem rep_get {n i : Nat} {x : Int} (h : i < n) : (List.replicate n x).getD i 0 = x := by simp [List.getD_eq_getElem?_getD, h]
theorem Fok.start (B : List Int) : Fok B 0 (fd0 B) := ⟨List.length_replicate .., List.length_replicate .., fun i hi => by show -1 ≤ (List.replicate 8192 (-1 : Int)).getD i 0 ∧ _; rw [show (fd0 B).hd = List.replicate 8192 (-1) from rfl, rep_get hi]; omega, fun i hi => by rw [show (fd0 B).nx = List.replicate B.length 0 from rfl, rep_get hi]; omega⟩
theorem set_get (l : List Int) (k : Nat) (v : Int) (i : Nat) : (l.set k v).getD i 0 = if i = k ∧ k < l.length then v else l.getD i 0 := by
  simp only [List.getD_eq_getElem?_getD, List.getElem?_set]
  by_cases h : k = i
  · subst h
    by_cases h2 : k < l.length
    · simp [h2]
    · simp [h2, List.getElem?_eq_none (Nat.le_of_not_lt h2)]
  · have : ¬ (i = k ∧ k < l.length) := fun e => h e.1.symm
    simp [h, this]
theorem Fok.put {B : List Int} {n : Nat} {f : Fd} (h : Fok B n f) : Fok B (n + 1) (putP B f n) := by
  unfold putP
  split
  · exact ⟨h.hl, h.nl, fun i hi => by have := h.h i hi; omega, fun i hi => by have := h.x i hi; omega⟩
  · have hh := hs_in B n
    refine ⟨by simp [h.hl], by simp [h.nl], fun i hi => ?_, fun i hi => ?_⟩
    · show -1 ≤ (f.hd.set _ _).getD i 0 ∧ (f.hd.set _ _).getD i 0 < _
      rw [set_get]
      split
      · omega
      · have := h.h i hi; omega
    · show -1 ≤ (f.nx.set _ _).getD i 0 ∧ ((f.nx.set _ _).getD i 0 < _ ∨ (f.nx.set _ _).getD i 0 = 0)
      rw [set_get]
      split
      · have := h.h (hs B n).toNat (by omega); omega
      · have := h.x i hi; omega
theorem Fok.puts {B : List Int} {n : Nat} {f : Fd} (h : Fok B n f) : ∀ k, Fok B (n + k) (putsP B f n k)
  | 0 => h
  | k + 1 => (h.puts k).put
structure Fs (B : List Int) (a : Nat) (r : Int × Int) : Prop where
  or_ : (r.1 = 0 ∧ r.2 = 0) ∨ (1 ≤ r.1 ∧ r.1 ≤ 258 ∧ 1 ≤ r.2 ∧ r.2 ≤ 32768 ∧ r.2 ≤ a ∧ a + r.1.toNat ≤ B.length ∧ ∀ i, i < r.1.toNat → B.getD (a - r.2.toNat + i) 0 = B.getD (a + i) 0)
theorem findGo_ok {B nx : List Int} {a : Nat} (hx : ∀ i, i < B.length → -1 ≤ nx.getD i 0 ∧ (nx.getD i 0 < a ∨ nx.getD i 0 = 0)) (ha : a < B.length) : ∀ (t : Nat) (old n far : Int), -1 ≤ old → (old < a ∨ (old = 0 ∧ 0 < a)) → Fs B a (n, far) → Fs B a (findGo B nx a t old n far)
  | 0, _, _, _, _, _, h => h
  | t + 1, old, n, far, h0, h1, h => by
    simp only [findGo]
    split
    · exact h
    · rename_i hc
      have hx2 := hx old.toNat (by omega)
      have ho : old < a := by omega
      split
      · rename_i hk
        have hA := alk_ok B old.toNat a
        refine findGo_ok hx ha t _ _ _ hx2.1 (by omega) ⟨.inr ⟨?_, ?_, ?_, ?_, ?_, ?_, ?_⟩⟩
        · have := h.or_; omega
        · have := hA.le; show (alk B old.toNat a : Int) ≤ 258; omega
        · show 1 ≤ (a : Int) - old; omega
        · show (a : Int) - old ≤ 32768; omega
        · show (a : Int) - old ≤ a; omega
        · have := hA.room
          show a + ((alk B old.toNat a : Nat) : Int).toNat ≤ B.length
          omega
        · intro i hi
          have := hA.same i (by simpa using hi)
          show B.getD (a - ((a : Int) - old).toNat + i) 0 = _
          rw [show a - ((a : Int) - old).toNat = old.toNat by omega]
          exact this
      · exact findGo_ok hx ha t _ _ _ hx2.1 (by omega) h
theorem find_ok {B : List Int} {a : Nat} {f : Fd} (h : Fok B a f) : Fs B a (findP B f a) := by
  unfold findP
  split
  · exact ⟨.inl ⟨rfl, rfl⟩⟩
  · have hh := hs_in B a
    have h1 := h.h (hs B a).toNat (by omega)
    exact findGo_ok h.x (by omega) 24 _ 0 0 h1.1 (.inl h1.2) ⟨.inl ⟨rfl, rfl⟩⟩
def exT : List Tok → List Int → List Int
  | [], o => o
  | t :: l, o => exT l (if t.n = 0 then o ++ [t.lit] else cpy t.far.toNat t.n.toNat o)
structure TokOk (t : Tok) : Prop where
  or_ : (t.n = 0 ∧ t.far = 0 ∧ 0 ≤ t.lit ∧ t.lit < 256) ∨ (t.lit = 0 ∧ 3 ≤ t.n ∧ t.n ≤ 258 ∧ 1 ≤ t.far ∧ t.far ≤ 32768)
inductive TokAt (B : List Int) : Nat → List Tok → Prop
  | nil : TokAt B B.length []
  | lit {a : Nat} {l : List Tok} : a < B.length → TokAt B (a + 1) l → TokAt B a (⟨B.getD a 0, 0, 0⟩ :: l)
  | cp {a n d : Nat} {l : List Tok} : 3 ≤ n → n ≤ 258 → 1 ≤ d → d ≤ 32768 → d ≤ a → a + n ≤ B.length → (∀ i, i < n → B.getD (a - d + i) 0 = B.getD (a + i) 0) → TokAt B (a + n) l → TokAt B a (⟨0, n, d⟩ :: l)
theorem wrap32b {x y : Int} (h : 0 ≤ y ∧ y < 256) (e : x = y) : IntKind.u32.wrap x = y := by
  subst e
  have e : IntKind.u32.wrap x = x % 4294967296 := by simp [IntKind.wrap, IntKind.bits, IntKind.signed]
  rw [e]; omega
theorem x3_eq (x y z : Int) : Value.int .u32 (IntKind.u32.wrap ((BitVec.ofInt IntKind.u32.bits (IntKind.u32.wrap ((BitVec.ofInt IntKind.u32.bits (IntKind.u32.wrap (x * 2 ^ (min (16 : Int).toNat IntKind.u32.bits))) ||| BitVec.ofInt IntKind.u32.bits (IntKind.u32.wrap (y * 2 ^ (min (8 : Int).toNat IntKind.u32.bits)))).toNat : Int)) ||| BitVec.ofInt IntKind.u32.bits z).toNat : Int)) = .int .u32 (x3 x y z) := rfl
theorem hs_eq (B : List Int) (a : Nat) : Value.int .u32 ((IntKind.u32.wrap (x3 (B.getD a 0) (B.getD (a + 1) 0) (B.getD (a + 2) 0) * 2654435761)).fdiv (2 ^ (min (19 : Int).toNat IntKind.u32.bits))) = .int .u32 (hs B a) := rfl
theorem alkGo_end2 {B : List Int} {old a n : Nat} (hn : n ≤ 258) (h : (n < 258 ∧ a + n < B.length ∧ B.getD (old + n) 0 = B.getD (a + n) 0) → False) : alkGo B old a (258 - n) n = n := by
  rcases Nat.lt_or_ge n 258 with h1 | h1
  · exact alkGo_end (fun h2 => h ⟨h1, h2⟩)
  · rw [show 258 - n = 0 by omega]; rfl
theorem putP_no {B : List Int} {f : Fd} {a : Nat} (h : B.length < a + 3) : putP B f a = f := if_pos h
theorem putP_yes {B : List Int} {f : Fd} {a : Nat} (h : ¬ B.length < a + 3) : (putP B f a).hd = f.hd.set (hs B a).toNat (a : Int) ∧ (putP B f a).nx = f.nx.set a (f.hd.getD (hs B a).toNat 0) := by
  unfold putP; rw [if_neg h]; exact ⟨rfl, rfl⟩
theorem find_no {B : List Int} {f : Fd} {a : Nat} (h : B.length < a + 3) : findP B f a = (0, 0) := if_pos h
theorem find_go {B : List Int} {f : Fd} {a : Nat} (h : ¬ B.length < a + 3) : findP B f a = findGo B f.nx a (24 - 0) (f.hd.getD (hs B a).toNat 0) 0 0 := if_neg h
section
variable {B nx : List Int} {a k o : Nat} {old n far : Int}
theorem findGo_end (h : ¬ k < 24) : findGo B nx a (24 - k) old n far = (n, far) := by rw [show 24 - k = 0 by omega]; rfl
theorem findGo_stop (hk : k < 24) (h : old = -1 ∨ 32768 < (a : Int) - old) : findGo B nx a (24 - k) old n far = (n, far) := by
  rw [show 24 - k = (24 - (k + 1)) + 1 by omega]
  simp only [findGo]
  rw [if_pos h]
theorem findGo_yes (hk : k < 24) (h1 : ¬ (o : Int) = -1) (h2 : ¬ 32768 < (a : Int) - o) (h3 : n < (alk B o a : Int)) : findGo B nx a (24 - k) o n far = findGo B nx a (24 - (k + 1)) (nx.getD o 0) (alk B o a) ((a : Int) - o) := by
  rw [show 24 - k = (24 - (k + 1)) + 1 by omega]
  simp only [findGo]
  rw [if_neg (by omega), Int.toNat_natCast, if_pos h3]
theorem findGo_no (hk : k < 24) (h1 : ¬ (o : Int) = -1) (h2 : ¬ 32768 < (a : Int) - o) (h3 : ¬ n < (alk B o a : Int)) : findGo B nx a (24 - k) o n far = findGo B nx a (24 - (k + 1)) (nx.getD o 0) n far := by
  rw [show 24 - k = (24 - (k + 1)) + 1 by omega]
  simp only [findGo]
  rw [if_neg (by omega), Int.toNat_natCast, if_neg h3]
end
theorem tokGo_more {B : List Int} : ∀ (q q' : Nat) (f : Fd) (a : Nat), B.length - a ≤ q → B.length - a ≤ q' → tokGo B q f a = tokGo B q' f a
  | 0, 0, f, a, _, _ => rfl
  | 0, q' + 1, f, a, h, _ => by simp only [tokGo]; rw [if_neg (by omega)]
  | q + 1, 0, f, a, _, h => by simp only [tokGo]; rw [if_neg (by omega)]
  | q + 1, q' + 1, f, a, h, h' => by
    simp only [tokGo]
    split
    · split
      · rw [tokGo_more q q' _ _ (by omega) (by omega)]
      · rw [tokGo_more q q' _ _ (by omega) (by omega)]
    · rfl
theorem tokGo_lit {B : List Int} {f : Fd} {a : Nat} (h : a < B.length) (h3 : (findP B f a).1 < 3) : tokGo B (B.length - a) f a = ⟨B.getD a 0, 0, 0⟩ :: tokGo B (B.length - (a + 1)) (putsP B f a 1) (a + 1) := by
  rw [show B.length - a = (B.length - (a + 1)) + 1 by omega]
  simp only [tokGo]
  rw [if_pos h, if_pos h3]
theorem tokGo_cp {B : List Int} {f : Fd} {a n : Nat} (h : a < B.length) (h3 : ¬ (findP B f a).1 < 3) (hn : (findP B f a).1 = (n : Int)) : tokGo B (B.length - a) f a = ⟨0, (findP B f a).1, (findP B f a).2⟩ :: tokGo B (B.length - (a + n)) (putsP B f a n) (a + n) := by
  rw [show B.length - a = (B.length - (a + 1)) + 1 by omega]
  simp only [tokGo]
  rw [if_pos h, if_neg h3, hn, Int.toNat_natCast, tokGo_more (B.length - (a + 1)) (B.length - (a + n)) _ _ (by omega) (by omega)]
theorem toks_eq (B : List Int) : [] ++ tokGo B (B.length - 0) (fd0 B) 0 = toks B := rfl
theorem rep_step {n i : Nat} (h : i < n) : (List.replicate i (-1 : Int) ++ List.replicate (n - i) 0).set i (-1) = List.replicate (i + 1) (-1) ++ List.replicate (n - (i + 1)) 0 := by
  rw [List.set_append_right _ _ (by simp), List.length_replicate, Nat.sub_self, show n - i = (n - (i + 1)) + 1 by omega, List.replicate_succ, List.set_cons_zero, show List.replicate (i + 1) (-1 : Int) = List.replicate i (-1) ++ [-1] from List.replicate_succ']
  simp
theorem find_big {B : List Int} {f : Fd} {a : Nat} (hf : Fok B a f) (h3 : ¬ (findP B f a).1 < 3) : ∃ n d : Nat, (findP B f a).1 = (n : Int) ∧ (findP B f a).2 = (d : Int) ∧ 3 ≤ n ∧ n ≤ 258 ∧ a + n ≤ B.length := by
  rcases (find_ok hf).or_ with h | ⟨f1, f2, f3, f4, f5, f6, f7⟩
  · omega
  · exact ⟨(findP B f a).1.toNat, (findP B f a).2.toNat, by omega, by omega, by omega, by omega, f6⟩
end Go.DefP
namespace Go.Sl
abbrev TK : Ec DefP.Tok := ⟨408, 3, fun t => [.int .i64 t.lit, .int .i64 t.n, .int .i64 t.far], ⟨0, 0, 0⟩, fun _ => rfl, fun _ => rfl⟩
end Go.Sl

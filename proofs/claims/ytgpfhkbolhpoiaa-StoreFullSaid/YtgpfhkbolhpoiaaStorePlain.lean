/-
  The plain side of 'store': items, their places, the small file.
-/
import Derived.Test.YtgpfhkbolhpoiaaSl21
import Derived.KernelRfl
namespace Go.StoreP
open Go.Sl
set_option linter.unusedVariables false
structure It where
  h : Int
  c : Int
  d : Int
  j : Option Addr
  late : Bool
  can : Bool
def It.nil : It := ⟨0, 0, 0, none, false, false⟩
def enc (x : It) : List Value := [.int .i64 x.h, .int .i64 x.c, .int .i64 x.d, .pointer x.j, .bool x.late, .bool x.can]
/-- The place of the first that is so; -1 where there is none. -/
def idx {α : Type} (l : List α) (p : α → Bool) : Int := match l.findIdx? p with | some i => i | none => -1
theorem idx_no {α : Type} {l : List α} {p : α → Bool} (h : ∀ j (hj : j < l.length), p l[j] = false) : idx l p = -1 := by
  unfold idx
  rw [List.findIdx?_eq_none_iff.2]
  intro x hx
  obtain ⟨j, hj, rfl⟩ := List.getElem_of_mem hx
  exact h j hj
theorem idx_yes {α : Type} {l : List α} {p : α → Bool} {k : Nat} (hk : k < l.length) (hp : p l[k] = true) (h : ∀ j (hj : j < k), p (l[j]'(by omega)) = false) : idx l p = k := by
  unfold idx
  have : l.findIdx? p = some k := by
    rw [List.findIdx?_eq_some_iff_getElem]
    exact ⟨hk, hp, fun j hj => by simp [h j hj]⟩
  rw [this]
def isH (h : Int) (x : It) : Bool := decide (x.h = h)
/-- How many bytes a head has, what they are while it is written. -/
def low : List Int := [10, 122, 14, 108, 18, 1, 22, 1, 26, 2097153, 30, 3, 54, 255, 58, 65280, 62, 16711680, 66, 4278190080]
def at_ (m : Nat) : Nat := (low.getD (2 * (m / 4)) 0).toNat + m % 4
def by_ (m : Nat) : Int := low.getD (2 * (m / 4) + 1) 0 / 2 ^ (8 * (m % 4)) % 256
def headK : Nat → List Int
  | 0 => [66, 77] ++ List.replicate 120 0
  | m + 1 => (headK m).set (at_ m) (by_ m)
theorem headK_len : ∀ m, (headK m).length = 122
  | 0 => by simp [headK]
  | m + 1 => by rw [headK, List.length_set, headK_len m]
def head : List Int := [66, 77, 0, 0, 0, 0, 0, 0, 0, 0, 122, 0, 0, 0, 108, 0, 0, 0, 1, 0, 0, 0, 1, 0, 0, 0, 1, 0, 32, 0, 3, 0, 0, 0, 0, 0, 0, 0, 0, 0, 0, 0, 0, 0, 0, 0, 0, 0, 0, 0, 0, 0, 0, 0, 255, 0, 0, 0, 0, 255, 0, 0, 0, 0, 255, 0, 0, 0, 0, 255, 0, 0, 0, 0, 0, 0, 0, 0, 0, 0, 0, 0, 0, 0, 0, 0, 0, 0, 0, 0, 0, 0, 0, 0, 0, 0, 0, 0, 0, 0, 0, 0, 0, 0, 0, 0, 0, 0, 0, 0, 0, 0, 0, 0, 0, 0, 0, 0, 0, 0, 0, 0]
def bmp1 : List Int := [66, 77, 0, 0, 0, 0, 0, 0, 0, 0, 122, 0, 0, 0, 108, 0, 0, 0, 1, 0, 0, 0, 1, 0, 0, 0, 1, 0, 32, 0, 3, 0, 0, 0, 0, 0, 0, 0, 0, 0, 0, 0, 0, 0, 0, 0, 0, 0, 0, 0, 0, 0, 0, 0, 255, 0, 0, 0, 0, 255, 0, 0, 0, 0, 255, 0, 0, 0, 0, 255, 0, 0, 0, 0, 0, 0, 0, 0, 0, 0, 0, 0, 0, 0, 0, 0, 0, 0, 0, 0, 0, 0, 0, 0, 0, 0, 0, 0, 0, 0, 0, 0, 0, 0, 0, 0, 0, 0, 0, 0, 0, 0, 0, 0, 0, 0, 0, 0, 0, 0, 0, 0, 1, 0, 0, 255]
theorem headK_all : headK 40 = head := by kernel_rfl
theorem bmp1_eq : bmp1 = head ++ [1, 0, 0, 255] := by kernel_rfl
theorem bmp1_len : bmp1.length = 126 := by kernel_rfl
def pix : List Int := [257, 0, 0, 65535]
theorem at_lt : ∀ m, m < 40 → at_ m < 122 := by decide
theorem low_at : ∀ j, j < 10 → low.getD (2 * j) 0 = ((low.getD (2 * j) 0).toNat : Int) ∧ (low.getD (2 * j) 0).toNat < 119 := by decide
theorem low_byte : ∀ j, j < 10 → ∀ k, k < 4 → 0 ≤ low.getD (2 * j + 1) 0 ∧ low.getD (2 * j + 1) 0 < 4294967296 := by decide
theorem headK_succ (m : Nat) : headK (m + 1) = (headK m).set (at_ m) (by_ m) := rfl
theorem wr_at : ∀ j : Nat, j < 10 → ∀ k : Nat, k < 4 → low.getD (2 * j) 0 + (k : Int) = (at_ (4 * j + k) : Int) := by decide
theorem wr_by : ∀ j : Nat, j < 10 → ∀ k : Nat, k < 4 → IntKind.u8.wrap ((low.getD (2 * j + 1) 0).fdiv (2 ^ (min (8 * k) IntKind.i64.bits))) = by_ (4 * j + k) := by decide
def pixo : List Int := [1, 0, 0, 255]
theorem pix_rem : ∀ k : Nat, k < 4 → (pix.getD k 0).tmod 257 = 0 := by decide
theorem pix_quo : ∀ k : Nat, k < 4 → IntKind.u8.wrap (IntKind.u16.wrap ((pix.getD k 0).tdiv 257)) = pixo.getD k 0 := by decide
theorem take_snoc {l : List Int} {k : Nat} (hk : k < l.length) : l.take k ++ [l.getD k 0] = l.take (k + 1) := by
  rw [List.take_add_one]
  simp [hk]
end Go.StoreP

/- Walks of functions that the law reaches, and what they lean on; no conditions. -/
import Derived.Test.YtmaiakpjgomnpaaGreatM3
import Derived.Test.YtmaiakpjgomnpaaGreatM2
import Derived.Test.YtmaiakpjgomnpaaGreatM1
import Derived.Test.YtmaiakpjgomnpaaGreatProg
import Derived.KernelRfl
set_option linter.unusedVariables false
set_option linter.unusedSimpArgs false
set_option maxRecDepth 100000
namespace Go.aa
open Go.ag
theorem Uu {row above : List Int} {back : Nat} (h : an row) : fa 0 row above back = row := by
  have e : ∀ i, i ≤ row.length → gx 0 row above back i = row.take i := by
    intro i
    induction i with
    | zero => intro _; simp [gx]
    | succ i ih =>
      intro hi
      have hb := h.get i
      rw [gx, ih (by omega), ab.gW (by omega)]
      have e0 : ∀ a b c : Int, lz 0 a b c = 0 := fun a b c => by unfold lz; simp
      have e1 : iK 0 row above back (row.take i) i = row.getD i 0 := by
        unfold iK
        rw [e0, Int.add_zero]
        omega
      rw [e1]
  rw [fa, e _ (Nat.le_refl _), List.take_length]
def fi (w h : Int) : Hd := ⟨w, h, 16, 6, false⟩
theorem K4 {P : List Int} {W H y m : Nat} (hP : P.length = 4 * W * H) (hy : y < H) (hm : m < 4 * W) : (hI P W y).getD (2 * m) 0 = P.getD (4 * W * y + m) 0 / 256 ∧ (hI P W y).getD (2 * m + 1) 0 = P.getD (4 * W * y + m) 0 % 256 := by
  have hle : 4 * W * (y + 1) ≤ 4 * W * H := Nat.mul_le_mul_left _ hy
  rw [Nat.mul_succ] at hle
  have hl : ((P.drop (4 * W * y)).take (4 * W)).length = 4 * W := by rw [List.length_take, List.length_drop]; omega
  have h := uW ((P.drop (4 * W * y)).take (4 * W)) m (by omega)
  have e : ((P.drop (4 * W * y)).take (4 * W)).getD m 0 = P.getD (4 * W * y + m) 0 := by
    rw [List.getD_eq_getElem?_getD, List.getD_eq_getElem?_getD, List.getElem?_take_of_lt hm, List.getElem?_drop]
  rw [e] at h
  exact h
theorem PR {P : List Int} {W H y x : Nat} (w h : Int) (hU : jA P) (hP : P.length = 4 * W * H) (hy : y < H) (hx : x < W) : eu (fi w h) (hI P W y) x = [P.getD (4 * (W * y + x)) 0, P.getD (4 * (W * y + x) + 1) 0, P.getD (4 * (W * y + x) + 2) 0, P.getD (4 * (W * y + x) + 3) 0] := by
  have hb : an (hI P W y) := qK (fun z hz => hU z (List.mem_of_mem_drop (List.mem_of_mem_take hz)))
  have e : ∀ i, i < 4 → bK (hI P W y) (x * 4 * 16 + i * 16) 16 = P.getD (4 * (W * y + x) + i) 0 := fun i hi => by
    have g := K4 (m := 4 * x + i) hP hy (by omega)
    have hu := hU.get (4 * W * y + (4 * x + i))
    have h16 := qQ (hb.get (8 * x + 2 * i)) (hb.get (8 * x + 2 * i + 1))
    rw [show 8 * x + 2 * i = 2 * (4 * x + i) by omega, g.1, g.2] at h16
    rw [show x * 4 * 16 + i * 16 = 8 * (2 * (4 * x + i)) by omega, h16]
    have e3 : 4 * W * y + (4 * x + i) = 4 * (W * y + x) + i := by rw [Nat.mul_add, ← Nat.mul_assoc]; omega
    rw [e3] at hu ⊢
    omega
  have hp : eu (fi w h) (hI P W y) x = [bK (hI P W y) (x * 4 * 16 + 0 * 16) 16, bK (hI P W y) (x * 4 * 16 + 1 * 16) 16, bK (hI P W y) (x * 4 * 16 + 2 * 16) 16, bK (hI P W y) (x * 4 * 16 + 3 * 16) 16] := rfl
  rw [hp, e 0 (by decide), e 1 (by decide), e 2 (by decide), e 3 (by decide), Nat.add_zero]
theorem TZ (w h : Int) (plte trns : List Int) (a b c d : Int) : gg ⟨fi w h, plte, trns⟩ [a, b, c, d] = some [a, b, c, d] := by
  have e : ∀ v, Eo (fi w h) v = v := fun v => by
    have : (65535 : Int) / (2 ^ (16 : Int).toNat - 1) = 1 := by decide
    simp only [Eo, fi, this, Int.mul_one]
  unfold gg
  simp only [fi] at e ⊢
  rw [if_neg (by decide)]
  have hc : aQ ⟨w, h, 16, 6, false⟩ trns = [] := by unfold aQ; simp
  simp only [hc, List.length_nil, Nat.lt_irrefl, false_and, if_false, List.map_cons, List.map_nil, e]
  rw [if_neg (by decide)]
  simp
def laid (P : List Int) (k : Nat) : List Int := P.take (4 * k) ++ List.replicate (P.length - 4 * k) 0
theorem Hc {P : List Int} {W : Nat} {y x : Nat} (hk : 4 * (W * y + x) + 4 ≤ P.length) : jq (W : Int) (laid P (W * y + x)) (0 + (x : Int) * 1) (0 + (y : Int) * 1) [P.getD (4 * (W * y + x)) 0, P.getD (4 * (W * y + x) + 1) 0, P.getD (4 * (W * y + x) + 2) 0, P.getD (4 * (W * y + x) + 3) 0] = laid P (W * y + (x + 1)) := by
  have e : (4 * ((0 + (y : Int) * 1) * (W : Int) + (0 + (x : Int) * 1))).toNat = 4 * (W * y + x) := by
    have : 4 * ((0 + (y : Int) * 1) * (W : Int) + (0 + (x : Int) * 1)) = ((4 * (W * y + x) : Nat) : Int) := by
      rw [Int.zero_add, Int.zero_add, Int.mul_one, Int.mul_one, Nat.mul_comm W y]; push_cast; rfl
    rw [this]; rfl
  unfold jq
  rw [e, show W * y + (x + 1) = (W * y + x) + 1 from rfl]
  clear e
  generalize W * y + x = k at hk
  have h1 : (laid P k).take (4 * k) = P.take (4 * k) := by
    unfold laid
    exact List.take_left' (by rw [List.length_take]; omega)
  have h2 : (laid P k).drop (4 * k + 4) = List.replicate (P.length - 4 * (k + 1)) 0 := by
    unfold laid
    rw [List.drop_append, List.drop_of_length_le (by rw [List.length_take]; omega), List.nil_append, List.length_take, List.drop_replicate]
    congr 1
    omega
  rw [h1, h2]
  unfold laid
  congr 1
  have h3 : P.take (4 * (k + 1)) = P.take (4 * k) ++ [P.getD (4 * k) 0] ++ [P.getD (4 * k + 1) 0] ++ [P.getD (4 * k + 2) 0] ++ [P.getD (4 * k + 3) 0] := by
    rw [show 4 * (k + 1) = 4 * k + 1 + 1 + 1 + 1 by omega, ab.gW (by omega), ab.gW (by omega), ab.gW (by omega), ab.gW (by omega)]
  rw [h3]
  simp
theorem FA {P : List Int} {W H y : Nat} (w h : Int) (plte trns : List Int) (p : Ps) (hp : p.x = 0 ∧ p.y = 0 ∧ p.dx = 1 ∧ p.dy = 1) (hw : w = (W : Int)) (hU : jA P) (hP : P.length = 4 * W * H) (hy : y < H) : ∀ k i, i + k = W → eV ⟨fi w h, plte, trns⟩ p (y : Int) (hI P W y) k i (laid P (W * y + i)) = some (laid P (W * y + W))
  | 0, i, hi => by rw [eV, show i = W by omega]
  | k + 1, i, hi => by
    have hle : 4 * W * (y + 1) ≤ 4 * W * H := Nat.mul_le_mul_left _ hy
    rw [Nat.mul_succ, Nat.mul_assoc] at hle
    rw [eV, PR w h hU hP hy (by omega), TZ]
    simp only [hp.1, hp.2.1, hp.2.2.1, hp.2.2.2]
    have e : (fi w h).w = (W : Int) := hw
    rw [e, Hc (by omega)]
    exact FA w h plte trns p hp hw hU hP hy k (i + 1) (by omega)
theorem AY {P : List Int} {W H : Nat} (w h : Int) (plte trns : List Int) (p : Ps) (hp : p.x = 0 ∧ p.y = 0 ∧ p.dx = 1 ∧ p.dy = 1) (hpw : p.w = (W : Int)) (hw : w = (W : Int)) (hU : jA P) (hP : P.length = 4 * W * H) : ∀ k y above, y + k = H → dO ⟨fi w h, plte, trns⟩ (bX P W H) (8 * W) 8 p k y (y * (1 + 8 * W)) above (laid P (W * y)) = some (H * (1 + 8 * W), laid P (W * H))
  | 0, y, above, hy => by rw [dO, show y = H by omega]
  | k + 1, y, above, hy => by
    have ha := L5 hP (show y < H by omega)
    have hb : an (hI P W y) := qK (fun z hz => hU z (List.mem_of_mem_drop (List.mem_of_mem_take hz)))
    rw [dO, ha.1, if_neg (by decide), ha.2, Uu hb]
    have hpn : p.w.toNat = W := by rw [hpw]; rfl
    have hr := FA w h plte trns p hp hw hU hP (show y < H by omega) W 0 (by omega)
    rw [Nat.add_zero] at hr
    rw [hpn, hr]
    simp only
    have e : y * (1 + 8 * W) + 1 + 8 * W = (y + 1) * (1 + 8 * W) := by rw [Nat.succ_mul y (1 + 8 * W)]; omega
    rw [e, show W * y + W = W * (y + 1) from (Nat.mul_succ _ _).symm]
    exact AY w h plte trns p hp hpw hw hU hP k (y + 1) (hI P W y) (by omega)
theorem NX {P : List Int} {W H : Nat} (plte trns : List Int) (hU : jA P) (hP : P.length = 4 * W * H) : eo ⟨fi (W : Int) (H : Int), plte, trns⟩ (bX P W H) (whole (W : Int) (H : Int)) 0 (laid P 0) = some P := by
  have e1 : (de (W : Int) (bitsOf (fi (W : Int) (H : Int)))).toNat = 8 * W := by
    have : bitsOf (fi (W : Int) (H : Int)) = 64 := rfl
    rw [this]; unfold de; omega
  have e2 : (max 1 (bitsOf (fi (W : Int) (H : Int)) / 8)).toNat = 8 := rfl
  have h := AY (W : Int) (H : Int) plte trns ⟨0, 0, 1, 1, (W : Int), (H : Int)⟩ ⟨rfl, rfl, rfl, rfl⟩ rfl rfl hU hP H 0 [] (by omega)
  rw [Nat.zero_mul, Nat.mul_zero] at h
  have e3 : laid P (W * H) = P := by
    unfold laid
    rw [← Nat.mul_assoc, ← hP, List.take_length, Nat.sub_self]
    simp
  rw [e3] at h
  unfold whole eo
  simp only [e1, e2]
  rw [show ((H : Int)).toNat = H from rfl, h]
  rfl
end Go.aa
namespace Go.aa
open Go.ag
theorem BJ : cZ bQ := by decide
theorem CB : cZ ba := by decide
theorem Ig : cZ a8 := by decide
theorem PL : bQ ≠ a8 := by decide
theorem N6 : ba ≠ a8 := by decide
def hB (w h : Int) : List Int := [0, 0, w / 256, w % 256, 0, 0, h / 256, h % 256, 16, 6, 0, 0, 0]
def kD (w h : Int) (z : List Int) : List Ch := [⟨bQ, hB w h⟩, ⟨ba, z⟩, ⟨a8, []⟩]
def eM (P : List Int) (W H : Nat) : List Int := aX (kD (W : Int) (H : Int) (cP (bX P W H)))
structure Sz (P : List Int) (W H : Nat) : Prop where
  w : 1 ≤ W ∧ W ≤ 256
  h : 1 ≤ H ∧ H ≤ 256
  wh : W * H ≤ 16384
  len : P.length = 4 * W * H
  u : jA P
theorem Ix {W H : Nat} (hw : 1 ≤ W ∧ W ≤ 256) (hh : 1 ≤ H ∧ H ≤ 256) : aL (hB (W : Int) (H : Int)) = fi (W : Int) (H : Int) := by
  unfold aL fi hB
  simp only [aH.cR, List.drop_succ_cons, List.drop_zero, List.getD_cons_zero, List.getD_cons_succ]
  congr 1 <;> first | omega | rfl
theorem SO {W H : Nat} (hw : 1 ≤ W ∧ W ≤ 256) (hh : 1 ≤ H ∧ H ≤ 256) : an (hB (W : Int) (H : Int)) := fun x hx => by
  simp only [hB, List.mem_cons, List.not_mem_nil, or_false] at hx
  rcases hx with rfl | rfl | rfl | rfl | rfl | rfl | rfl | rfl | rfl | rfl | rfl | rfl | rfl <;> omega
theorem ti {W H : Nat} (hw : 1 ≤ W ∧ W ≤ 256) (hh : 1 ≤ H ∧ H ≤ 256) (hwh : W * H ≤ 16384) : aT (W : Int) (H : Int) = 0 := by
  unfold aT
  have : (W : Int) ≤ 16384 / (H : Int) := by
    rw [Int.le_ediv_iff_mul_le (by omega)]
    have h2 : ((W * H : Nat) : Int) ≤ 16384 := by omega
    rw [Int.natCast_mul] at h2
    exact h2
  rw [if_neg (by omega), if_neg (by omega)]
theorem WR {W H : Nat} (hw : 1 ≤ W ∧ W ≤ 256) (hh : 1 ≤ H ∧ H ≤ 256) (hwh : W * H ≤ 16384) : eF (hB (W : Int) (H : Int)) = 0 := by
  unfold eF
  rw [Ix hw hh]
  have e1 : (fi (W : Int) (H : Int)).w = (W : Int) := rfl
  have e2 : (fi (W : Int) (H : Int)).h = (H : Int) := rfl
  have e3 : deep (fi (W : Int) (H : Int)).ar (fi (W : Int) (H : Int)).dep := show deep 6 16 by decide
  have e4 : (hB (W : Int) (H : Int)).getD 10 0 = 0 := rfl
  have e5 : (hB (W : Int) (H : Int)).getD 11 0 = 0 := rfl
  have e6 : (hB (W : Int) (H : Int)).getD 12 0 = 0 := rfl
  rw [if_neg (by unfold hB; simp), e1, e2, e4, e5, e6, if_neg (by rintro (h | h | h | h | h); exact h e3; omega; omega; omega; omega), ti hw hh hwh, if_pos rfl]
theorem JY (w h : Int) (z : List Int) : cD (kD w h z) = true := by
  have e : walk (((kD w h z).drop 1).take ((kD w h z).length - 2)) ⟨false, false, false, false⟩ = some ⟨false, false, true, false⟩ := rfl
  unfold cD
  rw [e]
  rfl
theorem JW (w h : Int) (z : List Int) : l9 (fi w h) (bD (kD w h z) aS) (dZ (kD w h z) aS) (bD (kD w h z) aY) (dZ (kD w h z) aY) := by
  have e1 : dZ (kD w h z) aS = false := rfl
  have e2 : dZ (kD w h z) aY = false := rfl
  rw [e1, e2]
  unfold l9
  simp [fi]
theorem F8 (w h : Int) (z : List Int) : bU (kD w h z) = z := by
  have : bU (kD w h z) = z ++ [] := rfl
  rw [this, List.append_nil]
theorem zE {P : List Int} {W H : Nat} (s : Sz P W H) : (bX P W H).length = H * (1 + 8 * W) := rV s.len H (Nat.le_refl _)
theorem Nv {W H : Nat} (hw : 1 ≤ W ∧ W ≤ 256) : want (fi (W : Int) (H : Int)) = ((H * (1 + 8 * W) : Nat) : Int) := by
  have e : want (fi (W : Int) (H : Int)) = ([if 0 < (W : Int) then (H : Int) * (1 + de (W : Int) 64) else 0] : List Int).sum := rfl
  have e2 : de (W : Int) 64 = 8 * (W : Int) := by unfold de; omega
  rw [e, if_pos (by omega), e2]
  simp
theorem ng {P : List Int} {W H : Nat} (s : Sz P W H) : (bX P W H).length ≤ 131328 := by
  have h1 := zE s
  have h2 := s.wh
  have h3 := s.h.2
  have e : H * (1 + 8 * W) = H + 8 * (W * H) := by rw [Nat.mul_add, Nat.mul_one, Nat.mul_comm H (8 * W), Nat.mul_assoc]
  omega
theorem ug {P : List Int} {W H : Nat} (s : Sz P W H) : ∀ c ∈ [(⟨bQ, hB (W : Int) (H : Int)⟩ : Ch), ⟨ba, cP (bX P W H)⟩], jJ c ∧ c.k ≠ a8 := fun c hc => by
  have hr := ng s
  have hb := FG (oo W s.u H) (by omega)
  have hl := nL (B := bX P W H) (by omega)
  simp only [List.mem_cons, List.not_mem_nil, or_false] at hc
  rcases hc with rfl | rfl
  · exact ⟨⟨BJ, SO s.w s.h, by simp [hB]⟩, PL⟩
  · exact ⟨⟨CB, hb, by simp only; omega⟩, N6⟩
theorem np : jJ ⟨a8, []⟩ := ⟨Ig, aJ.ir, by decide⟩
theorem px {P : List Int} {W H : Nat} (s : Sz P W H) : (eM P W H).length = 57 + (cP (bX P W H)).length := by
  have e : eM P W H = ee ++ (e9 ⟨bQ, hB (W : Int) (H : Int)⟩ ++ (e9 ⟨ba, cP (bX P W H)⟩ ++ e9 ⟨a8, []⟩)) := by simp [eM, aX, gN, kD]
  rw [e, List.length_append, List.length_append, List.length_append, jb BJ.1, jb CB.1, jb Ig.1]
  simp [ee, hB]
  omega
theorem C0 {P : List Int} {W H : Nat} (s : Sz P W H) : cut (eM P W H) = .ok (kD (W : Int) (H : Int) (cP (bX P W H))) := by
  have hr := ng s
  have hl := nL (B := bX P W H) (by omega)
  have hp := px s
  exact zi (l := [⟨bQ, hB (W : Int) (H : Int)⟩, ⟨ba, cP (bX P W H)⟩]) np rfl (ug s) (by
    have : (eM P W H).length ≤ 262144 := by omega
    exact this)
theorem DO {P : List Int} {W H : Nat} (s : Sz P W H) : an (eM P W H) := vZ (fun c hc => by
  have hc : c ∈ [(⟨bQ, hB (W : Int) (H : Int)⟩ : Ch), ⟨ba, cP (bX P W H)⟩] ++ [⟨a8, []⟩] := hc
  rcases List.mem_append.1 hc with h | h
  · exact (ug s c h).1
  · rw [List.mem_singleton.1 h]; exact np)
theorem CR {P : List Int} {W H : Nat} (s : Sz P W H) : jd (fi (W : Int) (H : Int)) = laid P 0 := by
  have e : (4 * (W : Int) * (H : Int)).toNat = P.length := by
    have : 4 * (W : Int) * (H : Int) = ((4 * W * H : Nat) : Int) := by push_cast; rfl
    rw [this, s.len]; rfl
  unfold jd laid
  simp only [fi, e, Nat.mul_zero, List.take_zero, List.nil_append, Nat.sub_zero]
theorem Eb {P : List Int} {W H : Nat} (s : Sz P W H) : ku (eM P W H) (⟨(W : Int), (H : Int), P⟩, 0) := by
  have hr := ng s
  have hrl := zE s
  have hw := Nv (H := H) s.w
  have hd : (((kD (W : Int) (H : Int) (cP (bX P W H))).map Ch.d).getD 0 []) = hB (W : Int) (H : Int) := rfl
  unfold ku
  rw [C0 s]
  simp only [hd, Ix s.w s.h, WR s.w s.h s.wh, F8]
  rw [if_neg (by rw [JY]; decide), if_neg (fun h => h rfl), if_neg (fun h => h (JW _ _ _))]
  have hwant : dH (aN (fi (W : Int) (H : Int))) (bitsOf (fi (W : Int) (H : Int))) = (((bX P W H).length : Nat) : Int) := by rw [hrl]; exact hw
  rw [hwant]
  refine ⟨(bX P W H, 0), Fc (oo W s.u H) (by omega) (Int.le_refl _), ?_⟩
  rw [if_neg (fun h => h rfl), if_neg (Int.lt_irrefl _)]
  have hdr := NX (bD (kD (W : Int) (H : Int) (cP (bX P W H))) aS) (bD (kD (W : Int) (H : Int) (cP (bX P W H))) aY) s.u s.len
  have h0 := CR s
  unfold jd at h0
  have hp : aN (fi (W : Int) (H : Int)) = whole (W : Int) (H : Int) := rfl
  rw [hp, h0]
  simp only
  rw [hdr]
  rfl
end Go.aa
namespace Go.aa
open Go.ag
theorem vr {x : Int} (h0 : 0 ≤ x ∧ x < 4294967296) : IntKind.u32.wrap ((BitVec.ofInt IntKind.u32.bits x &&& BitVec.ofInt IntKind.u32.bits 1).toNat : Int) = x % 2 := by
  obtain ⟨a, rfl⟩ : ∃ a : Nat, x = (a : Int) := ⟨x.toNat, by omega⟩
  have e : IntKind.u32.bits = 32 := rfl
  have e1 : BitVec.ofInt 32 1 = BitVec.ofInt 32 ((1 : Nat) : Int) := rfl
  rw [e, e1, BitVec.toNat_and, du, du, Nat.mod_eq_of_lt (by omega), Nat.mod_eq_of_lt (by omega), Nat.and_one_is_mod, aH.wrap32 (by omega) (by omega)]
  omega
theorem lI {x r : Int} {n : Nat} {d : Int} (hd : d = (n : Int)) (hn : n ≤ 32) (hr : x / 2 ^ n = r) : x.fdiv (2 ^ (min d.toNat IntKind.u32.bits)) = r := by rw [aH.BU hd hn, hr]
theorem fm (n : Int) : IntKind.u8.wrap n = n % 256 := rfl
def fO (k : Nat) (x : Int) : Int := ((jQ k x.toNat : Nat) : Int)
theorem IQ {x : Int} (h : 0 ≤ x) : fO 0 x = x := by unfold fO jQ; omega
theorem Jc (x : Int) : fO 8 x = fG x := rfl
theorem Fm {x : Int} (h : 0 ≤ x ∧ x < 4294967296) (k : Nat) : 0 ≤ fO k x ∧ fO k x < 4294967296 := by
  have := CE (x := x.toNat) (by omega) k
  unfold fO; omega
theorem AO {x : Int} {k : Nat} (h : fO k x % 2 = 1) : fO (k + 1) x = dp (fO k x / 2) 3988292384 := by
  have h2 : jQ k x.toNat % 2 = 1 := by unfold fO at h; omega
  have e : ((jQ k x.toNat : Nat) : Int) / 2 = ((jQ k x.toNat / 2 : Nat) : Int) := by omega
  unfold fO dp
  rw [jQ, qB, if_pos h2, e, Int.toNat_natCast]
  rfl
theorem xm {x : Int} {k : Nat} (h : ¬ fO k x % 2 = 1) : fO (k + 1) x = fO k x / 2 := by
  have h2 : ¬ jQ k x.toNat % 2 = 1 := by unfold fO at h; omega
  unfold fO
  rw [jQ, qB, if_neg h2]
  omega
def gA (i : Nat) : List Int := (List.range i).map (fun j => fG (j : Nat)) ++ List.replicate (256 - i) 0
def eL : List Int := gA 256
theorem yS {i : Nat} (h : i ≤ 256) : (gA i).length = 256 := by simp [gA]; omega
theorem Og : gA 0 = List.replicate 256 0 := rfl
theorem HB {i : Nat} (h : i < 256) : (gA i).set i (fG (i : Nat)) = gA (i + 1) := by
  unfold gA
  rw [List.set_append_right _ _ (by simp), List.length_map, List.length_range, Nat.sub_self, show 256 - i = (256 - (i + 1)) + 1 by omega, List.replicate_succ, List.set_cons_zero, List.range_succ, List.map_append]
  simp
theorem Hr {x : Int} (h : 0 ≤ x ∧ x < 256) : eL.getD x.toNat 0 = fG x := by
  obtain ⟨n, rfl⟩ : ∃ n : Nat, x = (n : Int) := ⟨x.toNat, by omega⟩
  have hn : n < 256 := by omega
  have : eL = (List.range 256).map (fun j => fG (j : Nat)) := by unfold eL gA; simp
  rw [this, Int.toNat_natCast, List.getD_eq_getElem?_getD, List.getElem?_map, List.getElem?_range hn]
  rfl
theorem bu {l : List Int} (h : an l) : ∀ x ∈ l, 0 ≤ x ∧ x < 256 := h
theorem LZ : gA 256 = eL := rfl
theorem fR {l : List Int} (h : an l) (i : Nat) : an (l.take i) := fun x hx => h x (List.mem_of_mem_take hx)
theorem Lc : eL.length = 256 := yS (Nat.le_refl _)
theorem RI {a b : Int} (ha : 0 ≤ a ∧ a < 256) (hb : 0 ≤ b ∧ b < 256) : 0 ≤ dp a b ∧ dp a b < 256 := pN (n := 8) ha hb
theorem Ld {a b : Int} (ha : 0 ≤ a ∧ a < 4294967296) (hb : 0 ≤ b ∧ b < 4294967296) : 0 ≤ dp a b ∧ dp a b < 4294967296 := pN (n := 32) ha hb
end Go.aa
namespace Go.aa
open Go.ag
theorem Oo (c : Int) : (97 ≤ c ∧ c ≤ 122) ∨ (97 ≤ c ∧ ¬ c ≤ 122) ∨ (¬ 97 ≤ c ∧ 65 ≤ c ∧ c ≤ 90) ∨ (¬ 97 ≤ c ∧ 65 ≤ c ∧ ¬ c ≤ 90) ∨ (¬ 97 ≤ c ∧ ¬ 65 ≤ c) := by omega
theorem uM {k : List Int} {i : Nat} (h : ¬ jK (k.getD i 0)) (hi : i < k.length) : ¬ cZ k := fun hn => h (by
  rw [List.getD_eq_getElem?_getD, List.getElem?_eq_getElem hi]
  exact hn.2 _ (List.getElem_mem hi))
theorem zB {k : List Int} (h : ∀ j, j < k.length → jK (k.getD j 0)) : cZ k ↔ k.length = 4 := by
  constructor
  · exact fun h => h.1
  · refine fun h4 => ⟨h4, fun c hc => ?_⟩
    obtain ⟨j, hj, rfl⟩ := List.getElem_of_mem hc
    have := h j hj
    rwa [List.getD_eq_getElem?_getD, List.getElem?_eq_getElem hj] at this
theorem Tc {k : List Int} {t : Bool} (ht : t = decide (cZ k)) (h : ∀ j, j < k.length → jK (k.getD j 0)) : decide ((k.length : Int) = 4) = t := by
  rw [ht]
  have := zB h
  by_cases h4 : k.length = 4
  · rw [decide_eq_true (this.2 h4), decide_eq_true (by omega)]
  · rw [decide_eq_false (fun hh => h4 (this.1 hh)), decide_eq_false (by omega)]
def ac (B : List Int) : Nat → Int
  | 0 => 0
  | i + 1 => ac B i * 256 + B.getD i 0
theorem XZ (B : List Int) : ac B 4 = aH.cR B := by simp only [ac, aH.cR]; omega
theorem Uj {B : List Int} (hB : an B) {i : Nat} (hi : i < 4) : 0 ≤ ac B i ∧ ac B i < 16777216 := by
  have h0 := hB.get 0; have h1 := hB.get 1; have h2 := hB.get 2
  have : i = 0 ∨ i = 1 ∨ i = 2 ∨ i = 3 := by omega
  rcases this with rfl | rfl | rfl | rfl <;> simp only [ac] <;> omega
theorem DF {B : List Int} {n i : Nat} (h : i < n) : (B.take n).getD i 0 = B.getD i 0 := by
  rw [List.getD_eq_getElem?_getD, List.getD_eq_getElem?_getD, List.getElem?_take_of_lt h]
end Go.aa
namespace Go.aa
open Go.ag
theorem xd {L : List Int} (hL : an L) : (L.length < 12 ∧ first L = .error 2) ∨
    (∃ n : Nat, 12 ≤ L.length ∧ aH.cR L = (n : Int) ∧ n < 4294967296 ∧ 2147483647 < n ∧ first L = .error 4) ∨
    (∃ n : Nat, 12 ≤ L.length ∧ aH.cR L = (n : Int) ∧ n ≤ 2147483647 ∧ ¬ cZ ((L.drop 4).take 4) ∧ first L = .error 4) ∨
    (∃ n : Nat, 12 ≤ L.length ∧ aH.cR L = (n : Int) ∧ n ≤ 2147483647 ∧ cZ ((L.drop 4).take 4) ∧ L.length < 12 + n ∧ first L = .error 2) ∨
    (∃ n : Nat, 12 ≤ L.length ∧ aH.cR L = (n : Int) ∧ n ≤ 2147483647 ∧ cZ ((L.drop 4).take 4) ∧ 12 + n ≤ L.length ∧ aH.cR (L.drop (8 + n)) = gn ((L.drop 4).take 4) ((L.drop 8).take n) ∧ first L = .ok ⟨(L.drop 4).take 4, (L.drop 8).take n⟩) ∨
    (∃ n : Nat, 12 ≤ L.length ∧ aH.cR L = (n : Int) ∧ n ≤ 2147483647 ∧ cZ ((L.drop 4).take 4) ∧ 12 + n ≤ L.length ∧ ¬ aH.cR (L.drop (8 + n)) = gn ((L.drop 4).take 4) ((L.drop 8).take n) ∧ first L = .error 5) := by
  rcases NL hL with h | ⟨n, h12, hn, hb, ⟨h1, h2⟩ | ⟨h1, h2, h3⟩ | ⟨h1, h2, h3, h4⟩ | ⟨h1, h2, h3, h4, h5⟩ | ⟨h1, h2, h3, h4, h5⟩⟩
  · exact .inl h
  · exact .inr (.inl ⟨n, h12, hn, hb, h1, h2⟩)
  · exact .inr (.inr (.inl ⟨n, h12, hn, h1, h2, h3⟩))
  · exact .inr (.inr (.inr (.inl ⟨n, h12, hn, h1, h2, h3, h4⟩)))
  · exact .inr (.inr (.inr (.inr (.inl ⟨n, h12, hn, h5, h2, h1, h3, h4⟩))))
  · exact .inr (.inr (.inr (.inr (.inr ⟨n, h12, hn, h5, h2, h1, h3, h4⟩))))
theorem dT {l : List Int} (h : an l) (i : Nat) : an (l.drop i) := fun x hx => h x (List.mem_of_mem_drop hx)
theorem j0 {l : List Int} {i n : Nat} (h : i + n ≤ l.length) : ((l.drop i).take n).length = n := by rw [List.length_take, List.length_drop]; omega
end Go.aa
namespace Go.aa
open Go.ag
theorem CX {L : List Int} {x : Ch} (hL : an L) (h : first L = .ok x) : 12 + x.d.length ≤ L.length ∧ cZ x.k ∧ an x.d := by
  rcases xd hL with ⟨_, h1⟩ | ⟨n, _, _, _, _, h1⟩ | ⟨n, _, _, _, _, h1⟩ | ⟨n, _, _, _, _, _, h1⟩ | ⟨n, _, _, _, h2, h3, _, h1⟩ | ⟨n, _, _, _, _, _, _, h1⟩ <;> rw [h1] at h <;> cases h
  refine ⟨?_, h2, fR (dT hL 8) n⟩
  have := j0 (l := L) (i := 8) (n := n) (by omega)
  show 12 + ((L.drop 8).take n).length ≤ _
  omega
theorem GP {L : List Int} {e : Int} (hL : an L) (h : first L = .error e) : e ≠ 0 := by
  rcases xd hL with ⟨_, h1⟩ | ⟨n, _, _, _, _, h1⟩ | ⟨n, _, _, _, _, h1⟩ | ⟨n, _, _, _, _, _, h1⟩ | ⟨n, _, _, _, h2, h3, _, h1⟩ | ⟨n, _, _, _, _, _, _, h1⟩ <;> rw [h1] at h <;> cases h <;> decide
theorem Xo {Z : List Int} (hZ : an Z) : (∃ e, first Z = .error e ∧ e ≠ 0) ∨ (∃ x, first Z = .ok x ∧ 12 + x.d.length ≤ Z.length ∧ cZ x.k ∧ an x.d ∧ x.k ≠ a8) ∨
    (∃ x, first Z = .ok x ∧ 12 + x.d.length = Z.length ∧ cZ x.k ∧ an x.d ∧ x.k = a8) ∨ (∃ x, first Z = .ok x ∧ 12 + x.d.length < Z.length ∧ cZ x.k ∧ an x.d ∧ x.k = a8) := by
  cases h : first Z with
  | error e => exact .inl ⟨e, rfl, GP hZ h⟩
  | ok x =>
    obtain ⟨h1, h2, h3⟩ := CX hZ h
    by_cases hk : x.k = a8
    · rcases Nat.lt_or_ge (12 + x.d.length) Z.length with h4 | h4
      · exact .inr (.inr (.inr ⟨x, rfl, h4, h2, h3, hk⟩))
      · exact .inr (.inr (.inl ⟨x, rfl, by omega, h2, h3, hk⟩))
    · exact .inr (.inl ⟨x, rfl, h1, h2, h3, hk⟩)
theorem Nn {f : Nat} {Z : List Int} {l : List Ch} {e : Int} (h : first Z = .error e) : fu (f + 1) Z l = .error e := by rw [fu, h]
theorem Mm {f : Nat} {Z : List Int} {l : List Ch} {x : Ch} (h : first Z = .ok x) (hk : x.k ≠ a8) : fu (f + 1) Z l = fu f (Z.drop (12 + x.d.length)) (l ++ [x]) := by
  rw [fu, h]; simp only; rw [if_neg hk]
theorem NK {f : Nat} {Z : List Int} {l : List Ch} {x : Ch} (h : first Z = .ok x) (hk : x.k = a8) (hl : 12 + x.d.length = Z.length) : fu (f + 1) Z l = .ok (l ++ [x]) := by
  rw [fu, h]; simp only; rw [if_pos hk, if_pos (by omega)]
theorem Ov {f : Nat} {Z : List Int} {l : List Ch} {x : Ch} (h : first Z = .ok x) (hk : x.k = a8) (hl : 12 + x.d.length < Z.length) : fu (f + 1) Z l = .error 4 := by
  rw [fu, h]; simp only; rw [if_pos hk, if_neg (by omega)]
theorem MA (B : List Int) : (262144 < B.length ∧ cut B = .error 3) ∨ (B.length < 8 ∧ cut B = .error 2) ∨ (B.length ≤ 262144 ∧ 8 ≤ B.length ∧ B.take 8 ≠ ee ∧ cut B = .error 4) ∨ (B.length ≤ 262144 ∧ 8 ≤ B.length ∧ B.take 8 = ee ∧ fu (B.length + 1) (B.drop 8) [] = cut B) := by
  rcases Nat.lt_or_ge 262144 B.length with h | h
  · exact .inl ⟨h, by unfold cut; rw [if_pos h]⟩
  · rcases Nat.lt_or_ge B.length 8 with h2 | h2
    · exact .inr (.inl ⟨h2, by unfold cut; rw [if_neg (by omega), if_pos h2]⟩)
    · by_cases h3 : B.take 8 = ee
      · exact .inr (.inr (.inr ⟨h, h2, h3, by unfold cut; rw [if_neg (by omega), if_neg (by omega), if_pos h3]⟩))
      · exact .inr (.inr (.inl ⟨h, h2, h3, by unfold cut; rw [if_neg (by omega), if_neg (by omega), if_neg h3]⟩))
theorem xc : ee.length = 8 := rfl
theorem ss : an ee := by unfold an; decide
theorem wW : an a8 := by unfold an; decide
end Go.aa
namespace Go.aa
open Go.ag
theorem Xh {p t i o : Bool} {c : Ch} (h : c.k = ba) : bS ⟨p, t, i, o⟩ c = (⟨p, t, true, o⟩, !o) := by unfold bS; rw [if_pos h]
theorem Tr {p i o : Bool} {c : Ch} (h1 : c.k ≠ ba) (h2 : c.k = aS) : bS ⟨p, true, i, o⟩ c = (⟨p, true, i, i⟩, false) := by unfold bS; rw [if_neg h1, if_pos h2]; rfl
theorem TL {p i o : Bool} {c : Ch} (h1 : c.k ≠ ba) (h2 : c.k = aS) : bS ⟨p, false, i, o⟩ c = (⟨true, false, i, i⟩, !p && !i) := by unfold bS; rw [if_neg h1, if_pos h2]; rfl
theorem Xk {p t i o : Bool} {c : Ch} (h1 : c.k ≠ ba) (h2 : c.k ≠ aS) (h3 : c.k = aY) : bS ⟨p, t, i, o⟩ c = (⟨p, true, i, i⟩, !t && !i) := by unfold bS; rw [if_neg h1, if_neg h2, if_pos h3]
theorem GM {p t i o : Bool} {c : Ch} {r : Bool} (h1 : c.k ≠ ba) (h2 : c.k ≠ aS) (h3 : c.k ≠ aY) (hr : r = (decide (cZ c.k) && !decide (fJ c.k))) : bS ⟨p, t, i, o⟩ c = (⟨p, t, i, i⟩, r) := by unfold bS; rw [if_neg h1, if_neg h2, if_neg h3, hr]
theorem TA (k : List Int) (t : Bool) : k = ba ∨ (k ≠ ba ∧ k = aS ∧ t = true) ∨ (k ≠ ba ∧ k = aS ∧ t = false) ∨ (k ≠ ba ∧ k ≠ aS ∧ k = aY) ∨ (k ≠ ba ∧ k ≠ aS ∧ k ≠ aY ∧ ¬ cZ k) ∨ (k ≠ ba ∧ k ≠ aS ∧ k ≠ aY ∧ cZ k ∧ fJ k) ∨ (k ≠ ba ∧ k ≠ aS ∧ k ≠ aY ∧ cZ k ∧ ¬ fJ k) := by
  by_cases h1 : k = ba
  · exact .inl h1
  · by_cases h2 : k = aS
    · cases t
      · exact .inr (.inr (.inl ⟨h1, h2, rfl⟩))
      · exact .inr (.inl ⟨h1, h2, rfl⟩)
    · by_cases h3 : k = aY
      · exact .inr (.inr (.inr (.inl ⟨h1, h2, h3⟩)))
      · by_cases h4 : cZ k
        · by_cases h5 : fJ k
          · exact .inr (.inr (.inr (.inr (.inr (.inl ⟨h1, h2, h3, h4, h5⟩)))))
          · exact .inr (.inr (.inr (.inr (.inr (.inr ⟨h1, h2, h3, h4, h5⟩)))))
        · exact .inr (.inr (.inr (.inr (.inl ⟨h1, h2, h3, h4⟩))))
theorem AB {k : List Int} (h : cZ k) : k.length = 4 := h.1
theorem P8 {k : List Int} {t : Bool} (ht : t = decide (fJ k)) (h : cZ k) : t = decide (k.getD 0 0 ≤ 90) := by
  rw [ht]
  by_cases h9 : k.getD 0 0 ≤ 90
  · exact (decide_eq_true (show fJ k from ⟨h, h9⟩)).trans (decide_eq_true h9).symm
  · exact (decide_eq_false (fun hh : fJ k => h9 hh.2)).trans (decide_eq_false h9).symm
theorem M8 {k : List Int} {t : Bool} (ht : t = decide (fJ k)) (h : ¬ cZ k) : t = false := ht.trans (decide_eq_false (fun hh => h hh.1))
theorem WY {k : List Int} (h : ¬ cZ k) : false = (decide (cZ k) && !decide (fJ k)) := by rw [decide_eq_false h]; rfl
theorem W4 {k : List Int} (h : fJ k) : false = (decide (cZ k) && !decide (fJ k)) := by rw [decide_eq_true h]; simp
theorem XL {k : List Int} (h : cZ k) (h2 : ¬ fJ k) : true = (decide (cZ k) && !decide (fJ k)) := by rw [decide_eq_true h, decide_eq_false h2]; rfl
theorem qW : an ba := by unfold an; decide
theorem qP : an aS := by unfold an; decide
theorem qV : an aY := by unfold an; decide
theorem J9 : an bQ := by unfold an; decide
def wF : Wk := ⟨false, false, false, false⟩
def mid (l : List Ch) : List Ch := (l.drop 1).take (l.length - 2)
def wid (o : Option Wk) : Bool := match o with | some w => w.bU | none => false
theorem XN (l : List Ch) : (l.length < 3 ∧ cD l = false) ∨ (3 ≤ l.length ∧ ((l.map Ch.k).getD 0 [] ≠ bQ) ∧ cD l = false) ∨ (3 ≤ l.length ∧ (l.map Ch.k).getD 0 [] = bQ ∧ ¬ ((l.map (·.d.length)).getD 0 0 = 13) ∧ cD l = false) ∨
    (3 ≤ l.length ∧ (l.map Ch.k).getD 0 [] = bQ ∧ (l.map (·.d.length)).getD 0 0 = 13 ∧ (l.map Ch.k).getD (l.length - 1) [] ≠ a8 ∧ cD l = false) ∨
    (3 ≤ l.length ∧ (l.map Ch.k).getD 0 [] = bQ ∧ (l.map (·.d.length)).getD 0 0 = 13 ∧ (l.map Ch.k).getD (l.length - 1) [] = a8 ∧ ¬ ((l.map (·.d.length)).getD (l.length - 1) 0 = 0) ∧ cD l = false) ∨
    (3 ≤ l.length ∧ (l.map Ch.k).getD 0 [] = bQ ∧ (l.map (·.d.length)).getD 0 0 = 13 ∧ (l.map Ch.k).getD (l.length - 1) [] = a8 ∧ (l.map (·.d.length)).getD (l.length - 1) 0 = 0 ∧ cD l = wid (walk (mid l) wF)) := by
  by_cases h1 : 3 ≤ l.length
  · by_cases h2 : (l.map Ch.k).getD 0 [] = bQ
    · by_cases h3 : (l.map (·.d.length)).getD 0 0 = 13
      · by_cases h4 : (l.map Ch.k).getD (l.length - 1) [] = a8
        · by_cases h5 : (l.map (·.d.length)).getD (l.length - 1) 0 = 0
          · refine .inr (.inr (.inr (.inr (.inr ⟨h1, h2, h3, h4, h5, ?_⟩))))
            unfold cD
            rw [h2, h3, h4, h5, decide_eq_true h1, show (bQ == bQ) = true by decide, show (a8 == a8) = true by decide]
            rfl
          · refine .inr (.inr (.inr (.inr (.inl ⟨h1, h2, h3, h4, h5, ?_⟩))))
            unfold cD
            rw [beq_eq_false_iff_ne.2 h5]
            simp
        · refine .inr (.inr (.inr (.inl ⟨h1, h2, h3, h4, ?_⟩)))
          unfold cD
          rw [beq_eq_false_iff_ne.2 h4]
          simp
      · refine .inr (.inr (.inl ⟨h1, h2, h3, ?_⟩))
        unfold cD
        rw [beq_eq_false_iff_ne.2 h3]
        simp
    · refine .inr (.inl ⟨h1, h2, ?_⟩)
      unfold cD
      rw [beq_eq_false_iff_ne.2 h2]
      simp
  · refine .inl ⟨by omega, ?_⟩
    unfold cD
    rw [decide_eq_false h1]
    simp
theorem MZ {l : List Ch} {i : Nat} {w : Wk} (c : Ch) (hc : l[i]? = some c) : walk (l.drop i) w = (if (bS w c).2 then walk (l.drop (i + 1)) (bS w c).1 else none) := by
  have hlt := (List.getElem?_eq_some_iff.1 hc).1
  rw [List.drop_eq_getElem_cons hlt, walk]
  have : l[i] = c := by rw [List.getElem?_eq_getElem hlt] at hc; exact Option.some.inj hc
  rw [this]
theorem DE {l : List Ch} {i : Nat} {w : Wk} (h : l.length ≤ i) : walk (l.drop i) w = some w := by rw [List.drop_of_length_le h, walk]
end Go.aa
namespace Go.aa
open Go.ag
def Hy (l : List Ch) : Int := if cD l then 0 else 4
theorem pJ {l : List Ch} (h : cD l = true) : Hy l = 0 := if_pos h
theorem k7 {l : List Ch} (h : cD l = false) : Hy l = 4 := if_neg (by rw [h]; decide)
theorem P5 (b : Bool) : b = true ∨ b = false := by cases b <;> simp
theorem zK {l : List Ch} (h : 3 ≤ l.length) : (mid l).length = l.length - 2 := by unfold mid; rw [List.length_take, List.length_drop]; omega
theorem LH {l : List Ch} {i : Nat} (h : i < l.length - 2) : (mid l)[i]? = l[1 + i]? := by unfold mid; rw [List.getElem?_take_of_lt h, List.getElem?_drop]
theorem Fq {l : List Ch} (h : cD l = wid (walk (mid l) wF)) {w : Wk} (hw : walk (mid l) wF = some w) : cD l = w.bU := by rw [h, hw]; rfl
theorem Si {l : List Ch} (h : cD l = wid (walk (mid l) wF)) (hw : walk (mid l) wF = none) : cD l = false := by rw [h, hw]; rfl
end Go.aa
namespace Go.aa
open Go.ag
def mK (c : Int) : Int := IntKind.u8.wrap ((BitVec.ofInt IntKind.u8.bits c ||| BitVec.ofInt IntKind.u8.bits 32).toNat : Int)
theorem Lx : ∀ k : Fin 256, (decide (97 ≤ mK ((k.val : Nat) : Int) ∧ mK ((k.val : Nat) : Int) ≤ 122) == decide (jK ((k.val : Nat) : Int))) = true := by decide +kernel
theorem KC {c : Int} (h : 0 ≤ c ∧ c < 256) : (97 ≤ mK c ∧ mK c ≤ 122) ↔ jK c := by
  obtain ⟨k, rfl⟩ := aH.sa h
  have := Lx k
  rw [beq_iff_eq] at this
  by_cases h1 : jK ((k.val : Nat) : Int)
  · rw [decide_eq_true h1] at this; exact ⟨fun _ => h1, fun _ => of_decide_eq_true this⟩
  · rw [decide_eq_false h1] at this; exact ⟨fun hh => absurd hh (of_decide_eq_false this), fun hh => absurd hh h1⟩
theorem o3 {c : Int} (h : 0 ≤ c ∧ c < 256) : (mK c < 97 ∧ ¬ jK c) ∨ (¬ mK c < 97 ∧ 122 < mK c ∧ ¬ jK c) ∨ (¬ mK c < 97 ∧ ¬ 122 < mK c ∧ jK c) := by
  have := KC h
  rcases Int.lt_or_le (mK c) 97 with h1 | h1
  · exact .inl ⟨h1, fun hh => by have := this.2 hh; omega⟩
  · rcases Int.lt_or_le 122 (mK c) with h2 | h2
    · exact .inr (.inl ⟨by omega, h2, fun hh => by have := this.2 hh; omega⟩)
    · exact .inr (.inr ⟨by omega, by omega, this.1 ⟨h1, h2⟩⟩)
theorem Uy {k : List Int} (h : ¬ k.length = 4) : ¬ cZ k := fun hn => h hn.1
end Go.aa
namespace Go.aa
open Go.ag
variable {n i : Nat} {prev : List Int} {c : Ch} {s : Od}
end Go.aa
namespace Go.aa
open Go.ag Go.Sl
theorem OY {a b A B : Int} (ha : 0 ≤ a ∧ a ≤ A) (hb : 0 ≤ b ∧ b ≤ B) : 0 ≤ a * b ∧ a * b ≤ A * B := ⟨Int.mul_nonneg ha.1 hb.1, Int.mul_le_mul ha.2 hb.2 hb.1 (by omega)⟩
theorem BE (w h : Int) : (w < 1 ∧ aT w h = 1) ∨ (¬ w < 1 ∧ h < 1 ∧ aT w h = 1) ∨ (¬ w < 1 ∧ ¬ h < 1 ∧ 256 < w ∧ aT w h = 6) ∨ (¬ w < 1 ∧ ¬ h < 1 ∧ ¬ 256 < w ∧ 256 < h ∧ aT w h = 6) ∨ (¬ w < 1 ∧ ¬ h < 1 ∧ ¬ 256 < w ∧ ¬ 256 < h ∧ 16384 / h < w ∧ aT w h = 6) ∨ (¬ w < 1 ∧ ¬ h < 1 ∧ ¬ 256 < w ∧ ¬ 256 < h ∧ ¬ 16384 / h < w ∧ aT w h = 0) := by
  unfold aT
  by_cases h1 : w < 1
  · exact .inl ⟨h1, if_pos (.inl h1)⟩
  by_cases h2 : h < 1
  · exact .inr (.inl ⟨h1, h2, if_pos (.inr h2)⟩)
  rw [if_neg (by omega)]
  by_cases h3 : 256 < w
  · exact .inr (.inr (.inl ⟨h1, h2, h3, if_pos (.inl h3)⟩))
  by_cases h4 : 256 < h
  · exact .inr (.inr (.inr (.inl ⟨h1, h2, h3, h4, if_pos (.inr (.inl h4))⟩)))
  by_cases h5 : 16384 / h < w
  · exact .inr (.inr (.inr (.inr (.inl ⟨h1, h2, h3, h4, h5, if_pos (.inr (.inr h5))⟩))))
  · exact .inr (.inr (.inr (.inr (.inr ⟨h1, h2, h3, h4, h5, if_neg (by rintro (h | h | h); exact h3 h; exact h4 h; exact h5 h)⟩))))
theorem il {w h : Int} (hs : aT w h = 0) : 1 ≤ w ∧ w ≤ 256 ∧ 1 ≤ h ∧ h ≤ 256 ∧ 1 ≤ w * h ∧ w * h ≤ 16384 := by
  rcases BE w h with h | h | h | h | h | ⟨h1, h2, h3, h4, h5, _⟩ <;> try omega
  have hm : w * h ≤ 16384 / h * h := Int.mul_le_mul_of_nonneg_right (by omega) (by omega)
  have hd : 16384 / h * h ≤ 16384 := Int.ediv_mul_le _ (by omega)
  have hp : 0 < w * h := Int.mul_pos (by omega) (by omega)
  omega
theorem qv {w h : Int} (hs : aT w h = 0) : 4 ≤ 4 * w * h ∧ 4 * w * h ≤ 65536 := by
  have := il hs
  rw [Int.mul_assoc]; omega
theorem qn {h : Int} (h1 : 1 ≤ h) : IntKind.i64.wrap ((16384 : Int).tdiv h) = 16384 / h := by
  rw [Int.tdiv_eq_ediv_of_nonneg (by decide)]
  have := Int.ediv_nonneg (a := 16384) (b := h) (by decide) (by omega)
  have h2 : 16384 / h ≤ 16384 := Int.ediv_le_self _ (by decide)
  exact gl (by omega) (by omega)
def iF (p : Ps) : Prop := 0 ≤ p.x ∧ p.x ≤ 8 ∧ 0 ≤ p.y ∧ p.y ≤ 8 ∧ (p.dx = 1 ∨ p.dx = 2 ∨ p.dx = 4 ∨ p.dx = 8) ∧ (p.dy = 1 ∨ p.dy = 2 ∨ p.dy = 4 ∨ p.dy = 8) ∧ 0 ≤ p.w ∧ p.w ≤ 256 ∧ 0 ≤ p.h ∧ p.h ≤ 256
theorem nh {w bits : Int} (hw : 0 ≤ w ∧ w ≤ 256) (hb : 0 ≤ bits ∧ bits ≤ 64) : 0 ≤ w * bits ∧ w * bits ≤ 16384 ∧ 0 ≤ de w bits ∧ de w bits ≤ 2048 := by
  have := OY hw hb
  unfold de; omega
def td (bits : Int) (p : Ps) : Int := if 0 < p.w then p.h * (1 + de p.w bits) else 0
theorem DU {p : Ps} {bits : Int} (hp : iF p) (hb : 0 ≤ bits ∧ bits ≤ 64) : 0 ≤ td bits p ∧ td bits p ≤ 524544 ∧ 0 ≤ p.h * (1 + de p.w bits) ∧ p.h * (1 + de p.w bits) ≤ 524544 := by
  obtain ⟨_, _, _, _, _, _, h1, h2, h3, h4⟩ := hp
  have hr := nh (w := p.w) ⟨h1, h2⟩ hb
  have := OY (a := p.h) (b := 1 + de p.w bits) ⟨h3, h4⟩ (B := 2049) (by omega)
  unfold td
  split <;> omega
theorem oa (l : List Ps) (bits : Int) : dH l bits = (l.map (td bits)).sum := rfl
theorem Ba : ∀ (a b : List Int), (a ++ b).sum = a.sum + b.sum
  | [], b => by simp
  | x :: a, b => by simp [Ba a b]; omega
theorem rv {l : List Ps} {bits : Int} {i : Nat} (h : i < l.length) : dH (l.take (i + 1)) bits = dH (l.take i) bits + td bits (l.getD i ⟨0, 0, 0, 0, 0, 0⟩) := by
  rw [oa, oa, List.take_succ_eq_append_getElem h, List.map_append, Ba, List.getD_eq_getElem?_getD, List.getElem?_eq_getElem h]
  simp
theorem vH {l : List Ps} {bits : Int} (hb : 0 ≤ bits ∧ bits ≤ 64) (hl : ∀ p ∈ l, iF p) : 0 ≤ dH l bits ∧ dH l bits ≤ 524544 * l.length := by
  induction l with
  | nil => simp [dH]
  | cons p l ih =>
    have h1 := DU (hl p (by simp)) hb
    have h2 := ih (fun q hq => hl q (by simp [hq]))
    rw [oa] at h2 ⊢
    simp only [List.map_cons, List.sum_cons, List.length_cons]
    omega
theorem Ul {p : Ps} {bits : Int} (h : 0 < p.w) : td bits p = p.h * (1 + de p.w bits) := if_pos h
theorem Te {p : Ps} {bits : Int} (h : ¬ 0 < p.w) : td bits p = 0 := if_neg h
theorem E5 {x y dx dy w h : Int} (hx : 0 ≤ x ∧ x ≤ 8) (hy : 0 ≤ y ∧ y ≤ 8) (hdx : dx = 1 ∨ dx = 2 ∨ dx = 4 ∨ dx = 8) (hdy : dy = 1 ∨ dy = 2 ∨ dy = 4 ∨ dy = 8) (hw : 0 ≤ w ∧ w ≤ 256) (hh : 0 ≤ h ∧ h ≤ 256) : iF (mi x y dx dy w h) := by
  have a := km (frm := x) (e := w) hdx
  have b := km (frm := y) (e := h) hdy
  have c := qG (frm := x) (e := w) hx.1 hw.1 hdx
  have d := qG (frm := y) (e := h) hy.1 hh.1 hdy
  exact ⟨hx.1, hx.2, hy.1, hy.2, hdx, hdy, a, Int.le_trans c hw.2, b, Int.le_trans d hh.2⟩
theorem AU {w h : Int} (hw : 0 ≤ w ∧ w ≤ 256) (hh : 0 ≤ h ∧ h ≤ 256) : ∀ p ∈ ev w h, iF p := by
  intro p hp
  simp only [ev, List.mem_cons, List.not_mem_nil, or_false] at hp
  rcases hp with rfl | rfl | rfl | rfl | rfl | rfl | rfl <;> exact E5 (by decide) (by decide) (by decide) (by decide) hw hh
theorem Ht (w h : Int) : (ev w h).length = 7 := rfl
theorem wa {w h : Int} (hw : 0 ≤ w ∧ w ≤ 256) (hh : 0 ≤ h ∧ h ≤ 256) : (∀ p ∈ aE w h, iF p) ∧ (aE w h).length ≤ 7 := ⟨fun p hp => AU hw hh p (List.mem_filter.1 hp).1, List.length_filter_le _ _⟩
theorem wR {w h : Int} (hw : 0 ≤ w ∧ w ≤ 256) (hh : 0 ≤ h ∧ h ≤ 256) : (∀ p ∈ whole w h, iF p) ∧ (whole w h).length ≤ 7 := ⟨fun p hp => by
  simp only [whole, List.mem_cons, List.not_mem_nil, or_false] at hp
  subst hp
  exact ⟨Int.le_refl _, (by decide : (0:Int) ≤ 8), Int.le_refl _, (by decide : (0:Int) ≤ 8), .inl rfl, .inl rfl, hw.1, hw.2, hh.1, hh.2⟩, by simp [whole]⟩
def pH (p : Ps) : Bool := decide (0 < p.w) && decide (0 < p.h)
def ek (w h : Int) (i : Nat) : List Ps := ((ev w h).take i).filter pH
theorem FC (w h : Int) : ek w h 7 = aE w h := rfl
theorem sY (w h : Int) : ek w h 0 = [] := rfl
theorem za (w h : Int) (i : Nat) : (ek w h i).length ≤ i := by
  have h1 := List.length_filter_le pH ((ev w h).take i)
  have h2 : ((ev w h).take i).length ≤ i := by rw [List.length_take]; omega
  exact Nat.le_trans h1 h2
theorem CW {w h : Int} {i : Nat} (hi : i < 7) : ek w h (i + 1) = ek w h i ++ (if pH ((ev w h).getD i ⟨0, 0, 0, 0, 0, 0⟩) then [(ev w h).getD i ⟨0, 0, 0, 0, 0, 0⟩] else []) := by
  unfold ek
  rw [List.take_succ_eq_append_getElem (show i < (ev w h).length from hi), List.filter_append, List.getD_eq_getElem?_getD, List.getElem?_eq_getElem (show i < (ev w h).length from hi), Option.getD_some]
  congr 1
  simp only [List.filter]
  split <;> simp_all
theorem DX (p : Ps) : (¬ 0 < p.w ∧ pH p = false) ∨ (0 < p.w ∧ ¬ 0 < p.h ∧ pH p = false) ∨ (0 < p.w ∧ 0 < p.h ∧ pH p = true) := by
  unfold pH
  by_cases h1 : 0 < p.w
  · by_cases h2 : 0 < p.h
    · exact .inr (.inr ⟨h1, h2, by simp [h1, h2]⟩)
    · exact .inr (.inl ⟨h1, h2, by simp [h2]⟩)
  · exact .inl ⟨h1, by simp [h1]⟩
theorem tA {w h : Int} {i : Nat} (hi : i < 7) {p : Ps} (hp : (ev w h).getD i ⟨0, 0, 0, 0, 0, 0⟩ = p) (ht : pH p = true) : ek w h i ++ [p] = ek w h (i + 1) := by rw [CW hi, hp, if_pos ht]
theorem tP {w h : Int} {i : Nat} (hi : i < 7) {p : Ps} (hp : (ev w h).getD i ⟨0, 0, 0, 0, 0, 0⟩ = p) (ht : pH p = false) : ek w h i = ek w h (i + 1) := by rw [CW hi, hp, if_neg (by rw [ht]; decide), List.append_nil]
theorem K3 {l : List Ps} (h : ∀ p ∈ l, iF p) {i : Nat} (hi : i < l.length) : iF (l.getD i ⟨0, 0, 0, 0, 0, 0⟩) := by
  rw [List.getD_eq_getElem?_getD, List.getElem?_eq_getElem hi]; exact h _ (List.getElem_mem hi)
theorem T0 {step e : Int} (hs : step = 1 ∨ step = 2 ∨ step = 4 ∨ step = 8) (frm : Int) (h : e ≤ frm) : many frm step e = 0 := if_pos h
theorem Jq {frm step e : Int} (h : ¬ e ≤ frm) : many frm step e = (e - frm + step - 1) / step := if_neg h
theorem many1 {e : Int} (h : 1 ≤ e) : many 0 1 e = e := by rw [Jq (by omega)]; omega
end Go.aa
namespace Go.aa
open Go.ag
def ua : List Ps := [⟨0, 0, 8, 8, 0, 0⟩, ⟨4, 0, 8, 8, 0, 0⟩, ⟨0, 4, 4, 8, 0, 0⟩, ⟨2, 0, 4, 4, 0, 0⟩, ⟨0, 2, 2, 4, 0, 0⟩, ⟨1, 0, 2, 2, 0, 0⟩, ⟨0, 1, 1, 2, 0, 0⟩]
theorem Kc (w h : Int) : ∀ {i : Nat}, i < 7 → ∀ {s : Ps}, s = ua.getD i ⟨0, 0, 0, 0, 0, 0⟩ → (ev w h).getD i ⟨0, 0, 0, 0, 0, 0⟩ = mi s.x s.y s.dx s.dy w h ∧ (0 ≤ s.x ∧ s.x ≤ 8) ∧ (0 ≤ s.y ∧ s.y ≤ 8) ∧ (s.dx = 1 ∨ s.dx = 2 ∨ s.dx = 4 ∨ s.dx = 8) ∧ (s.dy = 1 ∨ s.dy = 2 ∨ s.dy = 4 ∨ s.dy = 8) ∧ s.w = 0 ∧ s.h = 0
  | 0, _, _, rfl | 1, _, _, rfl | 2, _, _, rfl | 3, _, _, rfl | 4, _, _, rfl | 5, _, _, rfl | 6, _, _, rfl => ⟨rfl, by decide, by decide, by decide, by decide, rfl, rfl⟩
  | n + 7, h, _, _ => by omega
theorem Ia {k : Nat} {d : Int} (hd : d = 1 ∨ d = 2 ∨ d = 4 ∨ d = 8) (hk : k ≤ 256) : 0 ≤ (k : Int) * d ∧ (k : Int) * d ≤ 2048 := by
  rcases hd with rfl | rfl | rfl | rfl <;> omega
theorem Mq (f : Int) (k : Nat) (d : Int) : f + (k : Int) * d + d = f + ((k + 1 : Nat) : Int) * d := by
  rw [Int.natCast_succ, Int.add_mul, Int.one_mul, Int.add_assoc]
theorem Pt (f d : Int) : f = f + ((0 : Nat) : Int) * d := by
  rw [Int.natCast_zero, Int.zero_mul, Int.add_zero]
theorem ot {frm step e : Int} {k : Nat} (hs : step = 1 ∨ step = 2 ∨ step = 4 ∨ step = 8) (hk : (k : Int) ≤ many frm step e) (h : ¬ frm + (k : Int) * step < e) : (k : Int) = many frm step e := by
  have := kO (frm := frm) (e := e) (k := k) hs (by omega)
  omega
theorem sG (c : Int) : (c = 0 ∧ parts c = 1) ∨ (c ≠ 0 ∧ c = 3 ∧ parts c = 1) ∨ (c ≠ 0 ∧ c ≠ 3 ∧ c = 2 ∧ parts c = 3) ∨ (c ≠ 0 ∧ c ≠ 3 ∧ c ≠ 2 ∧ c = 4 ∧ parts c = 2) ∨ (c ≠ 0 ∧ c ≠ 3 ∧ c ≠ 2 ∧ c ≠ 4 ∧ c = 6 ∧ parts c = 4) ∨ (c ≠ 0 ∧ c ≠ 3 ∧ c ≠ 2 ∧ c ≠ 4 ∧ c ≠ 6 ∧ parts c = 0) := by
  unfold parts
  by_cases h0 : c = 0
  · exact .inl ⟨h0, by simp [h0]⟩
  by_cases h3 : c = 3
  · exact .inr (.inl ⟨h0, h3, by simp [h3]⟩)
  by_cases h2 : c = 2
  · exact .inr (.inr (.inl ⟨h0, h3, h2, by simp [h2]⟩))
  by_cases h4 : c = 4
  · exact .inr (.inr (.inr (.inl ⟨h0, h3, h2, h4, by simp [h4]⟩)))
  by_cases h6 : c = 6
  · exact .inr (.inr (.inr (.inr (.inl ⟨h0, h3, h2, h4, h6, by simp [h6]⟩))))
  · exact .inr (.inr (.inr (.inr (.inr ⟨h0, h3, h2, h4, h6, by simp [h0, h3, h2, h4, h6]⟩))))
theorem TF (c d : Int) : (c = 0 ∧ decide (deep c d) = decide (d ∈ ([1, 2, 4, 8, 16] : List Int))) ∨ (c ≠ 0 ∧ c = 3 ∧ decide (deep c d) = decide (d ∈ ([1, 2, 4, 8] : List Int))) ∨ (c ≠ 0 ∧ c ≠ 3 ∧ ¬ 0 < parts c ∧ decide (deep c d) = false) ∨ (c ≠ 0 ∧ c ≠ 3 ∧ 0 < parts c ∧ d = 8 ∧ decide (deep c d) = true) ∨ (c ≠ 0 ∧ c ≠ 3 ∧ 0 < parts c ∧ ¬ d = 8 ∧ decide (deep c d) = decide (d = 16)) := by
  by_cases h0 : c = 0
  · refine .inl ⟨h0, decide_eq_decide.2 ?_⟩
    unfold deep; simp [h0]
  by_cases h3 : c = 3
  · refine .inr (.inl ⟨h0, h3, decide_eq_decide.2 ?_⟩)
    unfold deep; simp [h3]
  by_cases hp : 0 < parts c
  · have hc : c = 2 ∨ c = 4 ∨ c = 6 := by rcases sG c with h | h | h | h | h | h <;> omega
    by_cases h8 : d = 8
    · exact .inr (.inr (.inr (.inl ⟨h0, h3, hp, h8, decide_eq_true (.inr (.inr ⟨hc, .inl h8⟩))⟩)))
    · refine .inr (.inr (.inr (.inr ⟨h0, h3, hp, h8, decide_eq_decide.2 ?_⟩)))
      unfold deep
      exact ⟨fun h => by rcases h with h | h | h <;> omega, fun h => .inr (.inr ⟨hc, .inr h⟩)⟩
  · refine .inr (.inr (.inl ⟨h0, h3, hp, decide_eq_false ?_⟩))
    unfold deep
    rintro (h | h | h)
    · exact h0 h.1
    · exact h3 h.1
    · have : 0 < parts c := by rcases sG c with g | g | g | g | g | g <;> omega
      exact hp this
theorem NN {l : List Int} {x : Int} {i : Nat} (h : i < l.length) (e : x = l.getD i 0) : x ∈ l := by
  rw [e, List.getD_eq_getElem?_getD, List.getElem?_eq_getElem h]; exact List.getElem_mem h
theorem JZ {l : List Int} {x : Int} (h : ∀ j, j < l.length → x ≠ l.getD j 0) : x ∉ l := fun hx => by
  obtain ⟨j, hj, e⟩ := List.getElem_of_mem hx
  refine h j hj ?_
  rw [List.getD_eq_getElem?_getD, List.getElem?_eq_getElem hj]; exact e.symm
theorem K2 {l : List Int} {x r : Int} {t : Bool} (ht : t = decide (x ∈ l)) (h : 0 ≤ r ↔ x ∈ l) : decide (0 ≤ r) = t := by rw [ht]; exact decide_eq_decide.2 h
end Go.aa
namespace Go.aa
open Go.ag Go.Sl
theorem O4 (a b : Int) : (if a - b < b - a then b - a else a - b) = off a b := by unfold off; split <;> omega
theorem OM (a b c : Int) : (off (a + b - c) a ≤ off (a + b - c) b ∧ off (a + b - c) a ≤ off (a + b - c) c ∧ pU a b c = a) ∨ (off (a + b - c) a ≤ off (a + b - c) b ∧ ¬ off (a + b - c) a ≤ off (a + b - c) c ∧ off (a + b - c) b ≤ off (a + b - c) c ∧ pU a b c = b) ∨ (off (a + b - c) a ≤ off (a + b - c) b ∧ ¬ off (a + b - c) a ≤ off (a + b - c) c ∧ ¬ off (a + b - c) b ≤ off (a + b - c) c ∧ pU a b c = c) ∨
    (¬ off (a + b - c) a ≤ off (a + b - c) b ∧ off (a + b - c) b ≤ off (a + b - c) c ∧ pU a b c = b) ∨ (¬ off (a + b - c) a ≤ off (a + b - c) b ∧ ¬ off (a + b - c) b ≤ off (a + b - c) c ∧ pU a b c = c) := by
  unfold pU
  by_cases h1 : off (a + b - c) a ≤ off (a + b - c) b
  · by_cases h2 : off (a + b - c) a ≤ off (a + b - c) c
    · exact .inl ⟨h1, h2, if_pos ⟨h1, h2⟩⟩
    · rw [if_neg (fun h => h2 h.2)]
      by_cases h3 : off (a + b - c) b ≤ off (a + b - c) c
      · exact .inr (.inl ⟨h1, h2, h3, if_pos h3⟩)
      · exact .inr (.inr (.inl ⟨h1, h2, h3, if_neg h3⟩))
  · rw [if_neg (fun h => h1 h.1)]
    by_cases h3 : off (a + b - c) b ≤ off (a + b - c) c
    · exact .inr (.inr (.inr (.inl ⟨h1, h3, if_pos h3⟩)))
    · exact .inr (.inr (.inr (.inr ⟨h1, h3, if_neg h3⟩)))
def rD (l : List Int) (j : Int) : Int := if j < 0 then 0 else l.getD j.toNat 0
theorem XB (l : List Int) (j : Int) : (j < 0 ∧ rD l j = 0) ∨ (¬ j < 0 ∧ (l.length : Int) ≤ j ∧ rD l j = 0) ∨ (¬ j < 0 ∧ ¬ (l.length : Int) ≤ j ∧ rD l j = l.getD j.toNat 0) := by
  unfold rD
  by_cases h1 : j < 0
  · exact .inl ⟨h1, if_pos h1⟩
  rw [if_neg h1]
  by_cases h2 : (l.length : Int) ≤ j
  · refine .inr (.inl ⟨h1, h2, ?_⟩)
    rw [List.getD_eq_getElem?_getD, List.getElem?_eq_none (by omega)]; rfl
  · exact .inr (.inr ⟨h1, h2, rfl⟩)
theorem Ez (l : List Int) (i back : Nat) : rD l ((i : Int) - (back : Int)) = gz l i back := by
  unfold rD gz
  by_cases h : i < back
  · rw [if_pos (by omega), if_pos h]
  · rw [if_neg (by omega), if_neg h, show ((i : Int) - (back : Int)).toNat = i - back by omega]
theorem KQ (l : List Int) (i : Nat) : rD l (i : Int) = l.getD i 0 := by
  unfold rD; rw [if_neg (by omega), Int.toNat_natCast]
theorem N0 (kind a b c : Int) : (kind = 1 ∧ lz kind a b c = a) ∨ (kind ≠ 1 ∧ kind = 2 ∧ lz kind a b c = b) ∨ (kind ≠ 1 ∧ kind ≠ 2 ∧ kind = 3 ∧ lz kind a b c = (a + b) / 2) ∨ (kind ≠ 1 ∧ kind ≠ 2 ∧ kind ≠ 3 ∧ kind = 4 ∧ lz kind a b c = pU a b c) ∨ (kind ≠ 1 ∧ kind ≠ 2 ∧ kind ≠ 3 ∧ kind ≠ 4 ∧ lz kind a b c = 0) := by
  unfold lz
  by_cases h1 : kind = 1
  · exact .inl ⟨h1, if_pos h1⟩
  rw [if_neg h1]
  by_cases h2 : kind = 2
  · exact .inr (.inl ⟨h1, h2, if_pos h2⟩)
  rw [if_neg h2]
  by_cases h3 : kind = 3
  · exact .inr (.inr (.inl ⟨h1, h2, h3, if_pos h3⟩))
  rw [if_neg h3]
  by_cases h4 : kind = 4
  · exact .inr (.inr (.inr (.inl ⟨h1, h2, h3, h4, if_pos h4⟩)))
  · exact .inr (.inr (.inr (.inr ⟨h1, h2, h3, h4, if_neg h4⟩)))
theorem JD {l : List Int} {i back : Nat} (h : i < back) : gz l i back = 0 := if_pos h
theorem Iz {l : List Int} {i back : Nat} (h : back ≤ i) : gz l i back = l.getD ((i : Int) - (back : Int)).toNat 0 := by
  unfold gz; rw [if_neg (by omega), show ((i : Int) - (back : Int)).toNat = i - back by omega]
theorem Mp (i back : Nat) : gz [] i back = 0 := by unfold gz; split <;> rfl
def iN (kind : Int) (row above : List Int) (back i : Nat) : List Int := gx kind row above back i ++ List.replicate (row.length - i) 0
theorem F1 {kind : Int} {row above : List Int} {back i : Nat} (h : i ≤ row.length) : (iN kind row above back i).length = row.length := by
  unfold iN; rw [List.length_append, mq, List.length_replicate]; omega
theorem Rx (kind : Int) (row above : List Int) (back : Nat) : iN kind row above back 0 = List.replicate row.length 0 := by simp [iN, gx]
theorem GD (kind : Int) (row above : List Int) (back : Nat) : iN kind row above back row.length = fa kind row above back := by simp [iN, fa]
theorem Gf {kind : Int} {row above : List Int} {back i : Nat} : an (iN kind row above back i) := fun x hx => by
  rcases List.mem_append.1 hx with h | h
  · exact sw kind row above back i x h
  · rw [List.eq_of_mem_replicate h]; decide
theorem Aj {a : List Int} {x v : Int} {b : List Int} {i : Nat} (ha : a.length = i) : (a ++ x :: b).set i v = a ++ v :: b := by
  subst ha; rw [List.set_append_right _ _ (Nat.le_refl _), Nat.sub_self]; rfl
theorem Gp {kind : Int} {row above : List Int} {back i : Nat} (h : i < row.length) : (iN kind row above back i).set i (iK kind row above back (gx kind row above back i) i) = iN kind row above back (i + 1) := by
  unfold iN
  rw [show row.length - i = (row.length - (i + 1)) + 1 by omega, List.replicate_succ, Aj (mq ..), gx, List.append_assoc]
  rfl
theorem LP {kind : Int} {row above : List Int} {back i : Nat} (hb : 0 < back) : gz (iN kind row above back i) i back = gz (gx kind row above back i) i back := Nq (mq ..) hb
def XH (kind : Int) (row above : List Int) (back i : Nat) : List Int := gx kind row above back i ++ row.drop i
theorem K6 {kind : Int} {row above : List Int} {back i : Nat} {x y : Int} (hx : x = row.getD i 0) (hy : y = lz kind (gz (gx kind row above back i) i back) (above.getD i 0) (gz above i back)) : (x + y) % 256 = iK kind row above back (gx kind row above back i) i := by rw [hx, hy]; rfl
end Go.aa
namespace Go.aa
open Go.ag Go.Sl
theorem uD (B : List Int) (a : Nat) {n : Nat} (hn : n ≤ 24) : 0 ≤ bK B a n ∧ bK B a n < 16777216 := by
  have h := lG B a n
  have h2 : (2 : Nat) ^ n ≤ 2 ^ 24 := Nat.pow_le_pow_right (by decide) hn
  have h3 : (2 : Int) ^ n = ((2 ^ n : Nat) : Int) := by simp
  rw [h3] at h
  omega
theorem Tw {B : List Int} {a k : Nat} (hk : k ≤ 24) : IntKind.i64.wrap (bK B a k * 2 ^ (min (1 : Int).toNat IntKind.i64.bits)) = 2 * bK B a k := by
  have h := uD B a hk
  exact On h.1 (by omega)
theorem Yo {B : List Int} {a k : Nat} (hk : k ≤ 24) : IntKind.i64.wrap ((BitVec.ofInt IntKind.i64.bits (2 * bK B a k) ||| BitVec.ofInt IntKind.i64.bits (gh B (a + k))).toNat : Int) = bK B a (k + 1) := by
  have h := uD B a hk
  rw [E9 h.1 (by omega) (qR _ _)]
  rfl
def iA (d : Int) : Prop := d = 1 ∨ d = 2 ∨ d = 4 ∨ d = 8 ∨ d = 16
def up (d v : Int) : Int := v * (65535 / (2 ^ d.toNat - 1))
theorem lO {d : Int} (h : iA d) : (2 : Int) ≤ 2 ^ d.toNat ∧ (2 : Int) ^ d.toNat ≤ 65536 := by rcases h with rfl | rfl | rfl | rfl | rfl <;> decide
theorem iY {d : Int} (h : iA d) : 1 ≤ d ∧ d ≤ 16 := by rcases h with rfl | rfl | rfl | rfl | rfl <;> decide
theorem AE {d : Int} (h : iA d) : IntKind.i64.wrap (1 * 2 ^ (min d.toNat IntKind.i64.bits)) = 2 ^ d.toNat := by rcases h with rfl | rfl | rfl | rfl | rfl <;> decide
theorem gq {c d : Int} (h : deep c d) : iA d := by
  unfold deep at h
  unfold iA
  omega
theorem lg {c d : Int} (h : deep c d) : 1 ≤ parts c ∧ parts c ≤ 4 ∧ 1 ≤ parts c * d ∧ parts c * d ≤ 64 := by
  unfold deep at h
  rcases h with ⟨rfl, h⟩ | ⟨rfl, h⟩ | ⟨rfl | rfl | rfl, h⟩
  · rw [show parts 0 = 1 from rfl]; omega
  · rw [show parts 3 = 1 from rfl]; omega
  · rw [show parts 2 = 3 from rfl]; omega
  · rw [show parts 4 = 2 from rfl]; omega
  · rw [show parts 6 = 4 from rfl]; omega
theorem Bu {d v : Int} (h : iA d) (h0 : 0 ≤ v) (h1 : v < 2 ^ d.toNat) : 0 ≤ up d v ∧ up d v ≤ 65535 := by
  unfold up
  rcases h with rfl | rfl | rfl | rfl | rfl
  · have : v < 2 := h1; simp; omega
  · have : v < 4 := h1; simp; omega
  · have : v < 16 := h1; simp; omega
  · have : v < 256 := h1; simp; omega
  · have : v < 65536 := h1; simp; omega
theorem up_mul {d v P : Int} (hP : P = 2 ^ d.toNat) (h : iA d) (h0 : 0 ≤ v) (h1 : v < P) : IntKind.i64.wrap (v * (65535 / (P - 1))) = up d v := by
  subst hP
  have := Bu h h0 h1
  unfold up at this ⊢
  exact gl (by omega) (by omega)
theorem Sn {n : Int} (h : 0 ≤ n ∧ n ≤ 65535) : IntKind.u16.wrap n = n := by
  have : IntKind.u16.wrap n = n % 65536 := rfl
  omega
theorem Yh (x : Int) : up 8 x = x * 257 := by unfold up; rfl
theorem LI {d : Int} (h : iA d) : d = 1 ∨ (d ≠ 1 ∧ d = 2) ∨ (d ≠ 1 ∧ d ≠ 2 ∧ d = 4) ∨ (d ≠ 1 ∧ d ≠ 2 ∧ d ≠ 4 ∧ d = 8) ∨ (d ≠ 1 ∧ d ≠ 2 ∧ d ≠ 4 ∧ d ≠ 8 ∧ d = 16) := by
  unfold iA at h
  omega
theorem qC {w h x y : Int} (hx : 0 ≤ x ∧ x < w) (hy : 0 ≤ y ∧ y < h) : 0 ≤ y * w ∧ 0 ≤ y * w + x ∧ y * w + x + 1 ≤ w * h := by
  have h1 : 0 ≤ y * w := Int.mul_nonneg hy.1 (by omega)
  have h2 : (y + 1) * w ≤ h * w := Int.mul_le_mul_of_nonneg_right (by omega) (by omega)
  rw [Int.add_mul, Int.one_mul, Int.mul_comm h w] at h2
  omega
def EZ (w : Int) (pix : List Int) (x y : Int) : List Int := (pix.drop (4 * (y * w + x)).toNat).take 4
theorem FP {w : Int} {pix : List Int} {x y : Int} {c : List Int} (hc : c.length = 4) (h : (4 * (y * w + x)).toNat + 4 ≤ pix.length) : (jq w pix x y c).length = pix.length := by
  simp [jq, hc]
  omega
theorem KW {w : Int} {pix : List Int} {x y : Int} (h : (4 * (y * w + x)).toNat + 4 ≤ pix.length) : (EZ w pix x y).length = 4 := by
  simp [EZ]
  omega
def iq (w1 h1 : Int) (n1 : Nat) (w2 h2 : Int) (n2 : Nat) (L1 L2 : List Int) : Prop := (aT w1 h1 = 0 ∧ (n1 : Int) = 4 * w1 * h1) ∧ (aT w2 h2 = 0 ∧ (n2 : Int) = 4 * w2 * h2) ∧ w1 = w2 ∧ h1 = h2 ∧ L1 = L2
theorem Ta (w1 h1 : Int) (n1 : Nat) (w2 h2 : Int) (n2 : Nat) (L1 L2 : List Int) :
    (¬ (aT w1 h1 = 0 ∧ (n1 : Int) = 4 * w1 * h1) ∧ ¬ iq w1 h1 n1 w2 h2 n2 L1 L2) ∨
    ((aT w1 h1 = 0 ∧ (n1 : Int) = 4 * w1 * h1) ∧ ¬ (aT w2 h2 = 0 ∧ (n2 : Int) = 4 * w2 * h2) ∧ ¬ iq w1 h1 n1 w2 h2 n2 L1 L2) ∨
    ((aT w1 h1 = 0 ∧ (n1 : Int) = 4 * w1 * h1) ∧ (aT w2 h2 = 0 ∧ (n2 : Int) = 4 * w2 * h2) ∧ w1 ≠ w2 ∧ ¬ iq w1 h1 n1 w2 h2 n2 L1 L2) ∨
    ((aT w1 h1 = 0 ∧ (n1 : Int) = 4 * w1 * h1) ∧ (aT w2 h2 = 0 ∧ (n2 : Int) = 4 * w2 * h2) ∧ w1 = w2 ∧ h1 ≠ h2 ∧ ¬ iq w1 h1 n1 w2 h2 n2 L1 L2) ∨
    ((aT w1 h1 = 0 ∧ (n1 : Int) = 4 * w1 * h1) ∧ (aT w2 h2 = 0 ∧ (n2 : Int) = 4 * w2 * h2) ∧ w1 = w2 ∧ h1 = h2 ∧ n1 = n2) := by
  by_cases a : (aT w1 h1 = 0 ∧ (n1 : Int) = 4 * w1 * h1)
  · by_cases b : (aT w2 h2 = 0 ∧ (n2 : Int) = 4 * w2 * h2)
    · by_cases c : w1 = w2
      · by_cases d : h1 = h2
        · exact .inr (.inr (.inr (.inr ⟨a, b, c, d, by subst c; subst d; omega⟩)))
        · exact .inr (.inr (.inr (.inl ⟨a, b, c, d, fun h => d h.2.2.2.1⟩)))
      · exact .inr (.inr (.inl ⟨a, b, c, fun h => c h.2.2.1⟩))
    · exact .inr (.inl ⟨a, b, fun h => b h.2.1⟩)
  · exact .inl ⟨a, fun h => a h.1⟩
theorem Ij {L1 L2 : List Int} {i : Nat} (h : L1.getD i 0 ≠ L2.getD i 0) : L1 ≠ L2 := fun e => h (by rw [e])
theorem Dj {L1 L2 : List Int} (hl : L1.length = L2.length) (h : ∀ j, j < L1.length → L1.getD j 0 = L2.getD j 0) : L1 = L2 := by
  refine List.ext_getElem hl fun j h1 h2 => ?_
  have := h j h1
  rwa [List.getD_eq_getElem?_getD, List.getD_eq_getElem?_getD, List.getElem?_eq_getElem h1, List.getElem?_eq_getElem h2] at this
end Go.aa
namespace Go.aa
open Go.ag Go.Sl
theorem fE (l : List Int) (n i : Nat) : (l.drop n).getD i 0 = l.getD (n + i) 0 := by simp [List.getD_eq_getElem?_getD, List.getElem?_drop]
theorem MF {B : List Int} (hB : an B) (j : Nat) : bK B (8 * j) 16 * 65536 + bK B (8 * j + 16) 16 = aH.cR (B.drop j) := by
 rw [qQ (hB.get _) (hB.get _), show 8 * j + 16 = 8 * (j + 2) by omega, qQ (hB.get _) (hB.get _)]
 unfold aH.cR
 rw [fE, fE, fE, fE]
 simp only [Nat.add_zero]
 rw [show j + 2 + 1 = j + 3 from rfl]
 omega
theorem Cy (B : List Int) (a : Nat) : 0 ≤ bK B a 16 ∧ bK B a 16 < 65536 := by have := lG B a 16; omega
def Fg (B : List Int) (a : Nat) : Nat → Int
 | 0 => 0
 | n + 1 => Fg B a n * 256 + B.getD (a + n) 0
def Nz (B : List Int) : Hd := if eF B = 0 then aL B else ⟨0, 0, 0, 0, false⟩
theorem wB {B : List Int} (h : eF B = 0) : Nz B = aL B := if_pos h
theorem n8 {B : List Int} {e : Int} (h : eF B = e) (he : e ≠ 0) : Nz B = ⟨0, 0, 0, 0, false⟩ := if_neg (by rw [h]; exact he)
theorem D1 (B : List Int) : (B.length ≠ 13 ∧ eF B = 4) ∨
  (¬ B.length ≠ 13 ∧ ¬ deep (aL B).ar (aL B).dep ∧ eF B = 4) ∨
  (¬ B.length ≠ 13 ∧ deep (aL B).ar (aL B).dep ∧ 0 < B.getD 10 0 + B.getD 11 0 ∧ eF B = 4) ∨
  (¬ B.length ≠ 13 ∧ deep (aL B).ar (aL B).dep ∧ ¬ 0 < B.getD 10 0 + B.getD 11 0 ∧ 1 < B.getD 12 0 ∧ eF B = 4) ∨
  (¬ B.length ≠ 13 ∧ deep (aL B).ar (aL B).dep ∧ ¬ 0 < B.getD 10 0 + B.getD 11 0 ∧ ¬ 1 < B.getD 12 0 ∧ (aL B).w = 0 ∧ eF B = 4) ∨
  (¬ B.length ≠ 13 ∧ deep (aL B).ar (aL B).dep ∧ ¬ 0 < B.getD 10 0 + B.getD 11 0 ∧ ¬ 1 < B.getD 12 0 ∧ ¬ (aL B).w = 0 ∧ (aL B).h = 0 ∧ eF B = 4) ∨
  (¬ B.length ≠ 13 ∧ deep (aL B).ar (aL B).dep ∧ ¬ 0 < B.getD 10 0 + B.getD 11 0 ∧ ¬ 1 < B.getD 12 0 ∧ ¬ (aL B).w = 0 ∧ ¬ (aL B).h = 0 ∧ aT (aL B).w (aL B).h ≠ 0 ∧ eF B = 6) ∨
  (¬ B.length ≠ 13 ∧ deep (aL B).ar (aL B).dep ∧ ¬ 0 < B.getD 10 0 + B.getD 11 0 ∧ ¬ 1 < B.getD 12 0 ∧ ¬ (aL B).w = 0 ∧ ¬ (aL B).h = 0 ∧ ¬ aT (aL B).w (aL B).h ≠ 0 ∧ eF B = 0) := by
 unfold eF
 by_cases h0 : B.length ≠ 13
 ·exact .inl ⟨h0, if_pos h0⟩
 refine .inr ?_
 rw [if_neg h0]
 by_cases h1 : deep (aL B).ar (aL B).dep
 case neg => exact .inl ⟨h0, h1, if_pos (.inl h1)⟩
 refine .inr ?_
 by_cases h2 : 0 < B.getD 10 0 + B.getD 11 0
 ·exact .inl ⟨h0, h1, h2, if_pos (.inr (.inl h2))⟩
 refine .inr ?_
 by_cases h3 : 1 < B.getD 12 0
 ·exact .inl ⟨h0, h1, h2, h3, if_pos (.inr (.inr (.inl h3)))⟩
 refine .inr ?_
 by_cases h4 : (aL B).w = 0
 ·exact .inl ⟨h0, h1, h2, h3, h4, if_pos (.inr (.inr (.inr (.inl h4))))⟩
 refine .inr ?_
 by_cases h5 : (aL B).h = 0
 ·exact .inl ⟨h0, h1, h2, h3, h4, h5, if_pos (.inr (.inr (.inr (.inr h5))))⟩
 refine .inr ?_
 rw [if_neg (fun h => by
  rcases h with h | h | h | h | h
  ·exact h h1
  ·exact h2 h
  ·exact h3 h
  ·exact h4 h
  ·exact h5 h)]
 by_cases h6 : aT (aL B).w (aL B).h = 0
 ·exact .inr ⟨h0, h1, h2, h3, h4, h5, fun h => h h6, if_pos h6⟩
 ·exact .inl ⟨h0, h1, h2, h3, h4, h5, h6, if_neg h6⟩
def WJ (c d : Int) : Prop := if c = 0 then d = 1 ∨ d = 2 ∨ d = 4 ∨ d = 8 ∨ d = 16 else if c = 2 ∨ c = 4 ∨ c = 6 then d = 8 ∨ d = 16 else if c = 3 then d = 1 ∨ d = 2 ∨ d = 4 ∨ d = 8 else d = 8
instance (c d : Int) : Decidable (WJ c d) := by unfold WJ; infer_instance
theorem Kf {L : List Int} {c : Ch} (hL : an L) (h : first L = .ok c) : an c.k ∧ c.k.length < 500000000 := by
 unfold first at h
 split at h
 ·cases h
 ·split at h
  ·cases h
  ·split at h
   ·cases h
   ·split at h
    ·cases h
     exact ⟨fun x hx => hL x (List.mem_of_mem_drop (List.mem_of_mem_take hx)), by simp only [List.length_take]; omega⟩
    ·cases h
theorem EH : ∀ {f : Nat} {L : List Int} {a l : List Ch}, an L → (∀ c ∈ a, an c.k ∧ c.k.length < 500000000) → fu f L a = .ok l → ∀ c ∈ l, an c.k ∧ c.k.length < 500000000
 | 0, L, a, l, _, _, h => by cases h
 | f + 1, L, a, l, hL, ha, h => by
  rw [fu] at h
  split at h
  ·cases h
  ·rename_i c hc
   have hd := Kf hL hc
   have ha2 : ∀ y ∈ a ++ [c], an y.k ∧ y.k.length < 500000000 := fun y hy => by
    rcases List.mem_append.1 hy with hy | hy
    ·exact ha y hy
    ·rw [List.mem_singleton.1 hy]; exact hd
   split at h
   ·split at h
    ·cases h; exact ha2
    ·cases h
   ·exact EH (fun x hx => hL x (List.mem_of_mem_drop hx)) ha2 h
theorem Tn {B : List Int} {l : List Ch} (hB : an B) (h : cut B = .ok l) : ∀ c ∈ l, an c.k ∧ c.k.length < 500000000 := by
 unfold cut at h
 split at h
 ·cases h
 ·split at h
  ·cases h
  ·split at h
   ·exact EH (fun x hx => hB x (List.mem_of_mem_drop hx)) (fun c hc => by cases hc) h
   ·cases h
def jg (l : List Ch) : Nat := (l.map (·.d.length)).sum
theorem HM (a : List Ch) (c : Ch) : jg (a ++ [c]) = jg a + c.d.length := by simp [jg]
theorem Gr {L : List Int} {c : Ch} (h : first L = .ok c) : 12 + c.d.length ≤ L.length := by
 unfold first at h
 split at h
 ·cases h
 ·rename_i h12
  split at h
  ·cases h
  ·split at h
   ·cases h
   ·rename_i h3
    split at h
    ·cases h
     simp only [List.length_take, List.length_drop]
     omega
    ·cases h
theorem yA : ∀ {f : Nat} {L : List Int} {a l : List Ch}, fu f L a = .ok l → jg l ≤ jg a + L.length
 | 0, L, a, l, h => by cases h
 | f + 1, L, a, l, h => by
  rw [fu] at h
  split at h
  ·cases h
  ·rename_i c hc
   have hd := Gr hc
   have hs := HM a c
   split at h
   ·split at h
    ·cases h; omega
    ·cases h
   ·have := yA h
    rw [List.length_drop] at this
    omega
theorem va {B : List Int} {l : List Ch} (h : cut B = .ok l) : jg l ≤ B.length := by
 unfold cut at h
 split at h
 ·cases h
 ·split at h
  ·cases h
  ·split at h
   ·have := yA h
    rw [List.length_drop] at this
    have e0 : jg [] = 0 := rfl
    omega
   ·cases h
theorem ns : ∀ l : List Ch, (bU l).length ≤ jg l
 | [] => by simp [bU, jg]
 | c :: l => by
  have ih := ns l
  unfold bU at ih ⊢
  rw [List.filter_cons]
  have e : jg (c :: l) = c.d.length + jg l := by simp [jg]
  split
  ·simp only [List.flatMap_cons, List.length_append]; omega
  ·omega
theorem lK {l : List Ch} {k : List Int} : (bD l k).length ≤ jg l := by
 unfold bD
 split
 ·rename_i c hc
  have hm := List.mem_of_find?_eq_some hc
  unfold jg
  clear hc
  induction l with
  | nil => cases hm
  | cons a l ih =>
   rw [List.map_cons, List.sum_cons]
   rcases List.mem_cons.1 hm with rfl | hm
   ·omega
   ·have := ih hm; omega
 ·simp
end Go.aa
namespace Go.aa
open Go.ag Go.Sl
theorem Yt {B : List Int} (h0 : ¬ B.length ≠ 13) :
  (¬ B.length ≠ 13 ∧ ¬ deep (aL B).ar (aL B).dep ∧ eF B = 4) ∨
  (¬ B.length ≠ 13 ∧ deep (aL B).ar (aL B).dep ∧ 0 < B.getD 10 0 + B.getD 11 0 ∧ eF B = 4) ∨
  (¬ B.length ≠ 13 ∧ deep (aL B).ar (aL B).dep ∧ ¬ 0 < B.getD 10 0 + B.getD 11 0 ∧ 1 < B.getD 12 0 ∧ eF B = 4) ∨
  (¬ B.length ≠ 13 ∧ deep (aL B).ar (aL B).dep ∧ ¬ 0 < B.getD 10 0 + B.getD 11 0 ∧ ¬ 1 < B.getD 12 0 ∧ (aL B).w = 0 ∧ eF B = 4) ∨
  (¬ B.length ≠ 13 ∧ deep (aL B).ar (aL B).dep ∧ ¬ 0 < B.getD 10 0 + B.getD 11 0 ∧ ¬ 1 < B.getD 12 0 ∧ ¬ (aL B).w = 0 ∧ (aL B).h = 0 ∧ eF B = 4) ∨
  (¬ B.length ≠ 13 ∧ deep (aL B).ar (aL B).dep ∧ ¬ 0 < B.getD 10 0 + B.getD 11 0 ∧ ¬ 1 < B.getD 12 0 ∧ ¬ (aL B).w = 0 ∧ ¬ (aL B).h = 0 ∧ aT (aL B).w (aL B).h ≠ 0 ∧ eF B = 6) ∨
  (¬ B.length ≠ 13 ∧ deep (aL B).ar (aL B).dep ∧ ¬ 0 < B.getD 10 0 + B.getD 11 0 ∧ ¬ 1 < B.getD 12 0 ∧ ¬ (aL B).w = 0 ∧ ¬ (aL B).h = 0 ∧ ¬ aT (aL B).w (aL B).h ≠ 0 ∧ eF B = 0) := (D1 B).resolve_left (fun h => h0 h.1)
theorem BH {x : Int} (h : 0 ≤ x ∧ x < 256) : IntKind.i64.wrap x = x := gl (by omega) (by omega)
theorem CT {B : List Int} (h : B.length ≠ 13) : eF B = 4 := by unfold eF; rw [if_pos h]
theorem XA {l : List Int} (h : l.length = 4) : ∃ a b c d, l = [a, b, c, d] := by
 match l, h with
 | [a, b, c, d], _ => exact ⟨a, b, c, d, rfl⟩
instance (w1 h1 : Int) (n1 : Nat) (w2 h2 : Int) (n2 : Nat) (L1 L2 : List Int) : Decidable (iq w1 h1 n1 w2 h2 n2 L1 L2) := by unfold iq; infer_instance
end Go.aa
namespace Go.aa
open Go.ag Go.Sl
def kX (l : List Ch) (k : List Int) : List Int := l.foldl (fun d c => if c.k = k then c.d else d) []
theorem mE {L : List Ch} {i : Nat} {x : Ch} (h : L[i]? = some x) : L.take (i + 1) = L.take i ++ [x] := by
 rw [List.take_add_one, h]; rfl
theorem kf {L : List Ch} {i : Nat} {x : Ch} {k : List Int} (h : L[i]? = some x) : kX (L.take (i + 1)) k = if x.k = k then x.d else kX (L.take i) k := by
 rw [mE h]; simp [kX]
theorem k8 {L : List Ch} {i : Nat} {x : Ch} {k : List Int} (h : L[i]? = some x) : dZ (L.take (i + 1)) k = (dZ (L.take i) k || (x.k == k)) := by
 rw [mE h]; simp [dZ]
theorem tH {L : List Ch} {i : Nat} {x : Ch} (h : L[i]? = some x) : bU (L.take (i + 1)) = if x.k = ba then bU (L.take i) ++ x.d else bU (L.take i) := by
 rw [mE h]
 unfold bU
 rw [List.filter_append, List.flatMap_append, List.filter_cons, List.filter_nil]
 by_cases hk : x.k = ba
 ·simp [hk]
 ·simp [hk]
theorem yF (L : List Ch) (i : Nat) : jg (L.take i) ≤ jg L := by
 conv => rhs; rw [← List.take_append_drop i L]
 unfold jg
 rw [List.map_append, List.sum_append]
 omega
theorem Jl : aS ≠ aY := by decide
theorem Rz : aS ≠ ba := by decide
theorem Sc : aY ≠ ba := by decide
def cnt (k : List Int) (l : List Ch) : Nat := (l.filter fun c => c.k == k).length
theorem wo (k : List Int) (c : Ch) (l : List Ch) : cnt k (c :: l) = (if c.k = k then 1 else 0) + cnt k l := by
 unfold cnt
 rw [List.filter_cons]
 by_cases h : c.k = k
 ·simp [h]; omega
 ·simp [h]
theorem vK {k : List Int} : ∀ {l : List Ch} {d : List Int}, cnt k l = 0 → l.foldl (fun d c => if c.k = k then c.d else d) d = d
 | [], d, _ => rfl
 | c :: l, d, h => by
  rw [wo] at h
  have hc : c.k ≠ k := fun e => by rw [if_pos e] at h; omega
  rw [List.foldl_cons, if_neg hc]
  exact vK (by omega)
theorem uX {k : List Int} : ∀ {l : List Ch}, cnt k l ≤ 1 → kX l k = bD l k
 | [], _ => rfl
 | c :: l, h => by
  rw [wo] at h
  unfold kX bD
  rw [List.foldl_cons, List.find?_cons]
  by_cases hc : c.k = k
  ·rw [if_pos hc] at h ⊢
   rw [vK (by omega)]
   simp [hc]
  ·rw [if_neg hc] at h ⊢
   have := uX (k := k) (l := l) (by omega)
   unfold kX bD at this
   have hb : (c.k == k) = false := beq_false_of_ne hc
   simp only [hb, if_neg hc, this]
theorem Dr {n i : Nat} {prev : List Int} {c : Ch} {s s2 : Od} (h : dC n i prev c s = some s2) : s2.gR = s.gR + (if c.k = aS then 1 else 0) ∧ s2.fD = s.fD + (if c.k = aY then 1 else 0) := by
 have d1 : bQ ≠ aS := by decide
 have d2 : bQ ≠ aY := by decide
 have d3 : a8 ≠ aS := by decide
 have d4 : a8 ≠ aY := by decide
 have d5 : ba ≠ aS := by decide
 have d6 : ba ≠ aY := by decide
 have d7 : aS ≠ aY := by decide
 unfold dC at h
 split at h
 ·rename_i hk
  rw [hk, if_neg d1, if_neg d2]
  split at h
  ·cases h
  ·cases h; exact ⟨rfl, rfl⟩
 ·split at h
  ·rename_i hk
   rw [hk, if_neg d3, if_neg d4]
   split at h
   ·cases h
   ·cases h; exact ⟨rfl, rfl⟩
  ·split at h
   ·rename_i hk
    rw [hk, if_neg d5, if_neg d6]
    split at h
    ·cases h
    ·cases h; exact ⟨rfl, rfl⟩
   ·split at h
    ·rename_i hk
     rw [hk, if_pos rfl, if_neg d7]
     split at h
     ·cases h
     ·cases h; exact ⟨rfl, rfl⟩
    ·rename_i hp
     split at h
     ·rename_i hk
      rw [if_neg hp, if_pos hk]
      split at h
      ·cases h
      ·cases h; exact ⟨rfl, rfl⟩
     ·rename_i hk
      rw [if_neg hp, if_neg hk]
      split at h
      ·cases h
      ·cases h; exact ⟨rfl, rfl⟩
theorem zP {n : Nat} : ∀ {l : List Ch} {i : Nat} {prev : List Int} {s : Od}, kE n i prev l s = true → s.gR + cnt aS l ≤ 1 ∧ s.fD + cnt aY l ≤ 1
 | [], i, prev, s, h => by
  rw [kE] at h
  unfold rP at h
  simp only [Bool.and_eq_true, decide_eq_true_eq] at h
  exact ⟨h.1.2, h.2⟩
 | c :: l, i, prev, s, h => by
  rw [kE] at h
  split at h
  ·cases h
  ·rename_i s2 hs
   have ih := zP h
   obtain ⟨e1, e2⟩ := Dr hs
   rw [wo, wo]
   omega
theorem G1 {l : List Ch} (h : cD l = true) : kX l aS = bD l aS ∧ kX l aY = bD l aY := by
 rw [← KB] at h
 have := zP h
 exact ⟨uX (by omega), uX (by omega)⟩
theorem wz {l : List Ch} (h : cD l = true) : 3 ≤ l.length := by
 unfold cD at h
 simp only [Bool.and_eq_true, decide_eq_true_eq] at h
 exact h.1.1.1.1.1
theorem zk {k : List Int} : ∀ {L : List Ch} {i : Nat} {x : Ch}, L[i]? = some x → x.k = k → (∀ j, j < i → ∀ c, L[j]? = some c → c.k ≠ k) → bD L k = x.d ∧ dZ L k = true
 | [], i, x, h, _, _ => by simp at h
 | c :: L, 0, x, h, hk, _ => by
  simp only [List.getElem?_cons_zero, Option.some.injEq] at h
  subst h
  simp [bD, dZ, hk]
 | c :: L, i + 1, x, h, hk, hall => by
  simp only [List.getElem?_cons_succ] at h
  have hc := hall 0 (by omega) c rfl
  have := zk h hk (fun j hj y hy => hall (j + 1) (by omega) y (by simpa using hy))
  unfold bD dZ at this ⊢
  have hb : (c.k == k) = false := beq_false_of_ne hc
  simp only [List.find?_cons, List.any_cons, hb, Bool.false_or, this]
  exact ⟨trivial, trivial⟩
theorem xY {k : List Int} : ∀ {L : List Ch}, (∀ j, j < L.length → ∀ c, L[j]? = some c → c.k ≠ k) → bD L k = [] ∧ dZ L k = false
 | [], _ => ⟨rfl, rfl⟩
 | c :: L, hall => by
  have hc := hall 0 (by simp) c rfl
  have := xY (k := k) (L := L) (fun j hj y hy => hall (j + 1) (by simp; omega) y (by simpa using hy))
  unfold bD dZ at this ⊢
  have hb : (c.k == k) = false := beq_false_of_ne hc
  simp only [List.find?_cons, List.any_cons, hb, Bool.false_or, this]
  exact ⟨trivial, trivial⟩
theorem nP {k : List Int} {L : List Ch} (h : dZ L k = false) : bD L k = [] := by
 unfold dZ at h
 unfold bD
 have : L.find? (fun c => c.k == k) = none := by
  rw [List.find?_eq_none]
  intro c hc hk
  rw [List.any_eq_false] at h
  exact h c hc hk
 rw [this]
def iy (h : Hd) (plte : List Int) (has : Bool) : Prop := if has then ¬ (h.ar = 0 ∨ h.ar = 4) ∧ (h.ar = 3 → (plte.length : Int) / 3 ≤ 2 ^ h.dep.toNat) ∧ plte.length % 3 = 0 ∧ 0 < plte.length ∧ plte.length / 3 ≤ 256 else h.ar ≠ 3
def iM (h : Hd) (plte trns : List Int) (is : Bool) : Prop := is = true → (h.ar = 3 ∧ trns.length ≤ plte.length / 3) ∨ (h.ar = 0 ∧ trns.length = 2) ∨ (h.ar = 2 ∧ trns.length = 6)
instance (h : Hd) (plte : List Int) (has : Bool) : Decidable (iy h plte has) := by unfold iy; infer_instance
instance (h : Hd) (plte trns : List Int) (is : Bool) : Decidable (iM h plte trns is) := by unfold iM; infer_instance
theorem Ml (h : Hd) (plte : List Int) : iy h plte false ↔ h.ar ≠ 3 := Iff.rfl
theorem O0 {h : Hd} {plte : List Int} {P : Int} (hP : P = 2 ^ h.dep.toNat) : (h.ar = 0 ∧ ¬ iy h plte true) ∨ (¬ h.ar = 0 ∧ h.ar = 4 ∧ ¬ iy h plte true) ∨
  (¬ h.ar = 0 ∧ ¬ h.ar = 4 ∧ h.ar = 3 ∧ P < (plte.length : Int) / 3 ∧ ¬ iy h plte true) ∨
  (¬ h.ar = 0 ∧ ¬ h.ar = 4 ∧ h.ar = 3 ∧ ¬ P < (plte.length : Int) / 3 ∧ (iy h plte true ↔ plte.length % 3 = 0 ∧ 0 < plte.length ∧ plte.length / 3 ≤ 256)) ∨
  (¬ h.ar = 0 ∧ ¬ h.ar = 4 ∧ ¬ h.ar = 3 ∧ (iy h plte true ↔ plte.length % 3 = 0 ∧ 0 < plte.length ∧ plte.length / 3 ≤ 256)) := by
 subst hP
 unfold iy
 simp only [if_true]
 by_cases h0 : h.ar = 0
 ·exact .inl ⟨h0, fun hh => hh.1 (.inl h0)⟩
 ·by_cases h4 : h.ar = 4
  ·exact .inr (.inl ⟨h0, h4, fun hh => hh.1 (.inr h4)⟩)
  ·by_cases h3 : h.ar = 3
   ·by_cases hp : (2 : Int) ^ h.dep.toNat < (plte.length : Int) / 3
    ·exact .inr (.inr (.inl ⟨h0, h4, h3, hp, fun hh => Int.not_lt.2 (hh.2.1 h3) hp⟩))
    ·exact .inr (.inr (.inr (.inl ⟨h0, h4, h3, hp, ⟨fun hh => hh.2.2, fun hh => ⟨fun h => h.elim h0 h4, fun _ => Int.not_lt.1 hp, hh⟩⟩⟩)))
   ·exact .inr (.inr (.inr (.inr ⟨h0, h4, h3, ⟨fun hh => hh.2.2, fun hh => ⟨fun h => h.elim h0 h4, fun h => absurd h h3, hh⟩⟩⟩)))
theorem PF (n : Nat) : (¬ n % 3 = 0) ∨ (n % 3 = 0 ∧ ¬ 0 < n) ∨ (n % 3 = 0 ∧ 0 < n) := by omega
theorem O2 (h : Hd) (plte trns : List Int) : iM h plte trns false := fun hh => by cases hh
theorem O5 (h : Hd) (plte trns : List Int) : (h.ar = 3 ∧ (iM h plte trns true ↔ trns.length ≤ plte.length / 3)) ∨ (¬ h.ar = 3 ∧ h.ar = 0 ∧ ¬ trns.length = 2 ∧ ¬ iM h plte trns true) ∨ (¬ h.ar = 3 ∧ h.ar = 0 ∧ trns.length = 2 ∧ iM h plte trns true) ∨
  (¬ h.ar = 3 ∧ ¬ h.ar = 0 ∧ h.ar = 2 ∧ ¬ trns.length = 6 ∧ ¬ iM h plte trns true) ∨ (¬ h.ar = 3 ∧ ¬ h.ar = 0 ∧ h.ar = 2 ∧ trns.length = 6 ∧ iM h plte trns true) ∨ (¬ h.ar = 3 ∧ ¬ h.ar = 0 ∧ ¬ h.ar = 2 ∧ ¬ iM h plte trns true) := by
 unfold iM
 simp only [true_implies]
 omega
theorem Mb {x P : Int} {d : Int} (hP : P = 2 ^ d.toNat) (hd : iA d) (hx : 0 ≤ x ∧ x < 65536) : IntKind.i64.wrap ((BitVec.ofInt IntKind.i64.bits x &&& BitVec.ofInt IntKind.i64.bits (P - 1)).toNat : Int) = x % P := by
 obtain ⟨n, rfl⟩ : ∃ n : Nat, x = (n : Int) := ⟨x.toNat, by omega⟩
 subst hP
 have key : ∀ m : Nat, m ≤ 16 → IntKind.i64.wrap ((BitVec.ofInt IntKind.i64.bits (n : Int) &&& BitVec.ofInt IntKind.i64.bits (2 ^ m - 1)).toNat : Int) = (n : Int) % 2 ^ m := by
  intro m hm
  have e : IntKind.i64.bits = 64 := rfl
  have hp : (2 : Nat) ^ m ≤ 2 ^ 16 := Nat.pow_le_pow_right (by decide) hm
  have hp1 : (1 : Nat) ≤ 2 ^ m := Nat.one_le_two_pow
  have e1 : BitVec.ofInt 64 ((2 : Int) ^ m - 1) = BitVec.ofNat 64 (2 ^ m - 1) := by
   rw [show (2 : Int) ^ m - 1 = ((2 ^ m - 1 : Nat) : Int) from by push_cast [hp1]; rfl, BitVec.ofInt_natCast]
  rw [e, BitVec.ofInt_natCast, e1, BitVec.toNat_and, BitVec.toNat_ofNat, BitVec.toNat_ofNat, Nat.mod_eq_of_lt (by omega), Nat.mod_eq_of_lt (by omega), Nat.and_two_pow_sub_one_eq_mod]
  have h2 : n % 2 ^ m ≤ n := Nat.mod_le ..
  rw [gl (by omega) (by omega)]
  simp
 exact key _ (by have := iY hd; omega)
theorem UD {h : Hd} {trns : List Int} (hc : h.ar = 0 ∨ h.ar = 2) (hl : trns.length / 2 = (parts h.ar).toNat) {i : Nat} (hi : i < (parts h.ar).toNat) : (aQ h trns).take (i + 1) = (aQ h trns).take i ++ [(trns.getD (2 * i) 0 * 256 + trns.getD (2 * i + 1) 0) % 2 ^ h.dep.toNat] ∧ (aQ h trns).length = (parts h.ar).toNat := by
 unfold aQ
 rw [if_pos hc]
 refine ⟨?_, by simp [hl]⟩
 rw [List.take_add_one]
 simp [hl, hi]
theorem L7 {h : Hd} {trns : List Int} (hc : h.ar = 0 ∨ h.ar = 2) (hl : trns.length / 2 = (parts h.ar).toNat) : (aQ h trns).length = (parts h.ar).toNat := by
 unfold aQ
 rw [if_pos hc]; simp [hl]
theorem TB {h : Hd} {trns : List Int} (hc : ¬ (h.ar = 0 ∨ h.ar = 2)) : aQ h trns = [] := by unfold aQ; rw [if_neg hc]
theorem Lj (h : Hd) : aQ h [] = [] := by unfold aQ; split <;> rfl
end Go.aa
namespace Go.aa
open Go.ag Go.Sl
theorem zh {B : List Int} (hB : an B) {k : Nat} : bK B (16 * k) 16 = B.getD (2 * k) 0 * 256 + B.getD (2 * k + 1) 0 := by
 rw [show 16 * k = 8 * (2 * k) by omega, qQ (hB.get _) (hB.get _)]
end Go.aa
namespace Go.aa
open Go.ag Go.Sl
def fq (f : Fl) : Prop := deep f.hd.ar f.hd.dep ∧ an f.plte ∧ an f.trns ∧ f.plte.length < 500000000 ∧ f.trns.length < 500000000 ∧ (f.hd.ar = 0 → f.trns.length = 0 ∨ f.trns.length = 2) ∧ (f.hd.ar = 2 → f.trns.length = 0 ∨ f.trns.length = 6) ∧ (f.hd.ar = 4 ∨ f.hd.ar = 6 → f.trns = []) ∧ (f.hd.ar = 3 → f.plte.length % 3 = 0)
theorem gm {c d : Int} (h : deep c d) : (c = 0 ∧ parts c = 1) ∨ (c = 2 ∧ parts c = 3) ∨ (c = 3 ∧ parts c = 1) ∨ (c = 4 ∧ parts c = 2) ∨ (c = 6 ∧ parts c = 4) := by
  have hp := sG c
  unfold deep at h
  omega
def xK (pl tr : List Int) (k : Nat) : Option (List Int) := if pl.length / 3 ≤ k then none else some [(pl.drop (3 * k)).getD 0 0 * 257, (pl.drop (3 * k)).getD 1 0 * 257, (pl.drop (3 * k)).getD 2 0 * 257, if k < tr.length then tr.getD k 0 * 257 else 65535]
def pQ (f : Fl) (v : List Int) : Int := if 0 < (aQ f.hd f.trns).length ∧ v = aQ f.hd f.trns then 0 else if f.hd.ar = 4 ∨ f.hd.ar = 6 then (v.map (up f.hd.dep)).getD ((v.map (up f.hd.dep)).length - 1) 0 else 65535
theorem y9 {f : Fl} {v : List Int} (h : f.hd.ar = 3) : gg f v = xK f.plte f.trns (v.getD 0 0).toNat := by
  unfold gg xK
  rw [if_pos h]
  split
  · rfl
  · rw [fE, fE, fE]
    rfl
theorem tU {f : Fl} {v : List Int} (h : ¬ f.hd.ar = 3) : gg f v = some (if f.hd.ar = 0 ∨ f.hd.ar = 4 then [(v.map (up f.hd.dep)).getD 0 0, (v.map (up f.hd.dep)).getD 0 0, (v.map (up f.hd.dep)).getD 0 0, pQ f v] else [(v.map (up f.hd.dep)).getD 0 0, (v.map (up f.hd.dep)).getD 1 0, (v.map (up f.hd.dep)).getD 2 0, pQ f v]) := by
  unfold gg pQ
  rw [if_neg h]
  show (if f.hd.ar = 0 ∨ f.hd.ar = 4 then _ else _) = _
  split <;> rfl
theorem Ae {f : Fl} {v : List Int} (h : f.hd.ar = 0 ∨ f.hd.ar = 4) : gg f v = some [(v.map (up f.hd.dep)).getD 0 0, (v.map (up f.hd.dep)).getD 0 0, (v.map (up f.hd.dep)).getD 0 0, pQ f v] := by rw [tU (by omega), if_pos h]
theorem KO {f : Fl} {v : List Int} (h : ¬ (f.hd.ar = 0 ∨ f.hd.ar = 4)) (h3 : ¬ f.hd.ar = 3) : gg f v = some [(v.map (up f.hd.dep)).getD 0 0, (v.map (up f.hd.dep)).getD 1 0, (v.map (up f.hd.dep)).getD 2 0, pQ f v] := by rw [tU h3, if_neg h]
theorem R7 {pl tr : List Int} {k : Nat} (h : pl.length / 3 ≤ k) : xK pl tr k = none := if_pos h
theorem E6 {pl tr : List Int} {k : Nat} (h : ¬ pl.length / 3 ≤ k) : xK pl tr k = some [(pl.drop (3 * k)).getD 0 0 * 257, (pl.drop (3 * k)).getD 1 0 * 257, (pl.drop (3 * k)).getD 2 0 * 257, if k < tr.length then tr.getD k 0 * 257 else 65535] := if_neg h
theorem Bz {v : List Int} {d : Int} {i : Nat} (h : i < v.length) : (v.map (up d)).take i ++ [up d (v.getD i 0)] = (v.map (up d)).take (i + 1) := by
  rw [List.take_add_one]
  simp [h, List.getD_eq_getElem?_getD]
def sm (h : Hd) (row : List Int) (x i : Nat) : Int := bK row (x * (parts h.ar).toNat * h.dep.toNat + i * h.dep.toNat) h.dep.toNat
theorem kI (h : Hd) (row : List Int) (x : Nat) : (eu h row x).length = (parts h.ar).toNat := by simp [eu]
theorem JQ {h : Hd} {row : List Int} {x i : Nat} (hi : i < (parts h.ar).toNat) : (eu h row x).getD i 0 = sm h row x i := by simp [eu, sm, hi, List.getD_eq_getElem?_getD]
theorem u0 {h : Hd} {row : List Int} {x : Nat} : ∀ y ∈ eu h row x, 0 ≤ y ∧ y < 2 ^ h.dep.toNat := fun y hy => by
  unfold eu at hy
  obtain ⟨i, _, rfl⟩ := List.mem_map.1 hy
  exact lG _ _ _
def ZM (S : List Int) (i : Nat) : List Int := S.take i ++ List.replicate (4 - i) 0
def ky (h : Hd) (tr S : List Int) (i : Nat) : Bool := decide (0 < tr.length) && (List.range i).all fun j => decide ((tr.getD (2 * j) 0 * 256 + tr.getD (2 * j + 1) 0) % 2 ^ h.dep.toNat = S.getD j 0)
theorem L4 {w bits : Int} {x : Nat} {n : Nat} (hx : (x : Int) < w) (hb : 0 ≤ bits) (hn : (n : Int) = de w bits) : (x : Int) * bits + bits ≤ 8 * n := by
  rw [hn]
  unfold de
  have h1 : ((x : Int) + 1) * bits ≤ w * bits := Int.mul_le_mul_of_nonneg_right (by omega) hb
  rw [Int.add_mul, Int.one_mul] at h1
  omega
end Go.aa
namespace Go.aa
open Go.ag Go.Sl
theorem hG {l : List Int} {i : Nat} (h : i < l.length) : l.getD i 0 ∈ l := by
  rw [List.getD_eq_getElem?_getD, List.getElem?_eq_getElem h]
  exact List.getElem_mem h
theorem we {a b c d a' b' c' d' : Int} (h : some [a, b, c, d] = some [a', b', c', d']) : a = a' ∧ b = b' ∧ c = c' ∧ d = d' := by
  simpa using h
theorem tf (b : Bool) : b = true ∨ b = false := by cases b <;> simp
end Go.aa
namespace Go.aa
open Go.ag Go.Sl
theorem K7 (f : Fl) (v : List Int) : gg f v = none ∨ ∃ a b c d, gg f v = some [a, b, c, d] := by
  by_cases h3 : f.hd.ar = 3
  · rw [y9 h3]
    unfold xK
    split
    · exact .inl rfl
    · exact .inr ⟨_, _, _, _, rfl⟩
  · rw [tU h3]
    split
    · exact .inr ⟨_, _, _, _, rfl⟩
    · exact .inr ⟨_, _, _, _, rfl⟩
def vN (S old : List Int) (k : Nat) : List Int := S.take k ++ old.drop k
theorem Xr (S old : List Int) : vN S old 0 = old := rfl
theorem ME {S old : List Int} {k : Nat} (h : S.length = old.length) (hk : k ≤ S.length) : (vN S old k).length = S.length := by simp [vN]; omega
theorem SC {S old : List Int} (h : S.length = old.length) : vN S old S.length = S := by
  unfold vN
  rw [List.take_length, List.drop_eq_nil_of_le (by omega), List.append_nil]
theorem XV {S old : List Int} {k : Nat} (h : S.length = old.length) (hk : k < S.length) : (vN S old k).set k (S.getD k 0) = vN S old (k + 1) := by
  unfold vN
  have hl : (S.take k).length = k := by rw [List.length_take]; omega
  rw [List.drop_eq_getElem_cons (show k < old.length by omega), Aj hl, List.take_add_one, List.append_assoc]
  congr 1
  simp [hk, List.getD_eq_getElem?_getD]
theorem XX {h : Hd} {row old : List Int} {x N D k : Nat} (hN : N = (parts h.ar).toNat) (hD : D = h.dep.toNat) (ho : old.length = N) (hk : k < N) : (vN (eu h row x) old k).set ((k : Int)).toNat (bK row (x * N * D + k * D) D) = vN (eu h row x) old (k + 1) := by
  subst hN; subst hD
  have e := JQ (h := h) (row := row) (x := x) hk
  unfold sm at e
  rw [← e, show ((k : Int)).toNat = k from rfl]
  exact XV (by rw [kI, ho]) (by rw [kI]; exact hk)
def fS (p : Ps) (w h : Int) : Prop := iF p ∧ (∀ k : Int, 0 ≤ k → k < p.w → p.x + k * p.dx < w) ∧ ∀ k : Int, 0 ≤ k → k < p.h → p.y + k * p.dy < h
theorem O6 {x y dx dy w h : Int} (hx : 0 ≤ x ∧ x ≤ 8) (hy : 0 ≤ y ∧ y ≤ 8) (hdx : dx = 1 ∨ dx = 2 ∨ dx = 4 ∨ dx = 8) (hdy : dy = 1 ∨ dy = 2 ∨ dy = 4 ∨ dy = 8) (hw : 0 ≤ w ∧ w ≤ 256) (hh : 0 ≤ h ∧ h ≤ 256) : fS (mi x y dx dy w h) w h :=
  ⟨E5 hx hy hdx hdy hw hh, fun k h0 hk => (kO hdx h0).2 hk, fun k h0 hk => (kO hdy h0).2 hk⟩
theorem mN {w h : Int} (hw : 0 ≤ w ∧ w ≤ 256) (hh : 0 ≤ h ∧ h ≤ 256) : ∀ p ∈ aE w h, fS p w h := fun p hp => by
  have hm := (List.mem_filter.1 hp).1
  unfold ev at hm
  simp only [List.mem_cons, List.not_mem_nil, or_false] at hm
  rcases hm with rfl | rfl | rfl | rfl | rfl | rfl | rfl <;> exact O6 (by decide) (by decide) (by decide) (by decide) hw hh
theorem xn {w h : Int} (hw : 0 ≤ w ∧ w ≤ 256) (hh : 0 ≤ h ∧ h ≤ 256) : ∀ p ∈ whole w h, fS p w h := fun p hp => by
  have := (wR hw hh).1 p hp
  unfold whole at hp
  rw [List.mem_singleton.1 hp] at this ⊢
  exact ⟨this, fun k h0 hk => by show 0 + k * 1 < w; have : k < w := hk; omega, fun k h0 hk => by show 0 + k * 1 < h; have : k < h := hk; omega⟩
section
variable {f : Fl} {p : Ps} {y : Int} {row : List Int} {i : Nat} {P : List Int} {r : Option (List Int)}
theorem SA (hi : (i : Int) < p.w) (hpx : gg f (eu f.hd row i) = none) (h : eV f p y row (p.w.toNat - i) i P = r) : r = none := by
  rw [show p.w.toNat - i = (p.w.toNat - (i + 1)) + 1 by omega, eV, hpx] at h
  exact h.symm
theorem SB {c : List Int} (hi : (i : Int) < p.w) (hpx : gg f (eu f.hd row i) = some c) (h : eV f p y row (p.w.toNat - i) i P = r) : eV f p y row (p.w.toNat - (i + 1)) (i + 1) (jq f.hd.w P (p.x + i * p.dx) (p.y + y * p.dy) c) = r := by
  rw [show p.w.toNat - i = (p.w.toNat - (i + 1)) + 1 by omega, eV, hpx] at h
  exact h
theorem O8 (hi : ¬ (i : Int) < p.w) (h : eV f p y row (p.w.toNat - i) i P = r) : r = some P := by
  rw [show p.w.toNat - i = 0 by omega, eV] at h
  exact h.symm
end
section
variable {f : Fl} {D : List Int} {n back : Nat} {p : Ps} {y a : Nat} {A P : List Int} {r : Option (Nat × List Int)}
theorem LV (hy : (y : Int) < p.h) (hk : 4 < D.getD a 0) (h : dO f D n back p (p.h.toNat - y) y a A P = r) : r = none := by
  rw [show p.h.toNat - y = (p.h.toNat - (y + 1)) + 1 by omega, dO, if_pos hk] at h
  exact h.symm
theorem KP (hy : (y : Int) < p.h) (hk : ¬ 4 < D.getD a 0) (hr : eV f p y (fa (D.getD a 0) ((D.drop (a + 1)).take n) A back) p.w.toNat 0 P = none) (h : dO f D n back p (p.h.toNat - y) y a A P = r) : r = none := by
  rw [show p.h.toNat - y = (p.h.toNat - (y + 1)) + 1 by omega, dO, if_neg hk, hr] at h
  exact h.symm
theorem Ks {P2 : List Int} (hy : (y : Int) < p.h) (hk : ¬ 4 < D.getD a 0) (hr : eV f p y (fa (D.getD a 0) ((D.drop (a + 1)).take n) A back) p.w.toNat 0 P = some P2) (h : dO f D n back p (p.h.toNat - y) y a A P = r) : dO f D n back p (p.h.toNat - (y + 1)) (y + 1) (a + 1 + n) (fa (D.getD a 0) ((D.drop (a + 1)).take n) A back) P2 = r := by
  rw [show p.h.toNat - y = (p.h.toNat - (y + 1)) + 1 by omega, dO, if_neg hk, hr] at h
  exact h
theorem Kg (hy : ¬ (y : Int) < p.h) (h : dO f D n back p (p.h.toNat - y) y a A P = r) : r = some (a, P) := by
  rw [show p.h.toNat - y = 0 by omega, dO] at h
  exact h.symm
theorem T6 (f : Fl) (D : List Int) (n back : Nat) (p : Ps) (y a : Nat) (A P : List Int) : 4 < D.getD a 0 ∨ (¬ 4 < D.getD a 0 ∧ eV f p y (fa (D.getD a 0) ((D.drop (a + 1)).take n) A back) p.w.toNat 0 P = none) ∨ (¬ 4 < D.getD a 0 ∧ ∃ P2, eV f p y (fa (D.getD a 0) ((D.drop (a + 1)).take n) A back) p.w.toNat 0 P = some P2) := by
  by_cases h : 4 < D.getD a 0
  · exact .inl h
  · cases hr : eV f p y (fa (D.getD a 0) ((D.drop (a + 1)).take n) A back) p.w.toNat 0 P with
    | none => exact .inr (.inl ⟨h, rfl⟩)
    | some P2 => exact .inr (.inr ⟨h, P2, rfl⟩)
end
theorem MB (x : Int) : (if 1 < x then x else 1) = max 1 x := by split <;> omega
theorem uV (kind : Int) (row above : List Int) (back : Nat) : an (fa kind row above back) := sw kind row above back row.length
def m0 (bits : Int) (l : List Ps) : Nat := (l.map fun p => p.h.toNat * (1 + (de p.w bits).toNat)).sum
theorem Et (bits : Int) (p : Ps) (l : List Ps) : m0 bits (p :: l) = p.h.toNat * (1 + (de p.w bits).toNat) + m0 bits l := by simp [m0]
theorem tz {bits : Int} (hb : 0 ≤ bits ∧ bits ≤ 64) : ∀ {l : List Ps}, (∀ p ∈ l, iF p ∧ 0 < p.w) → (m0 bits l : Int) = dH l bits
  | [], _ => rfl
  | p :: l, h => by
    have ih := tz hb (fun q hq => h q (List.mem_cons_of_mem _ hq))
    obtain ⟨ho, hw⟩ := h p (List.mem_cons_self ..)
    obtain ⟨_, _, _, _, _, _, hw0, hw1, hh0, hh1⟩ := ho
    have hr := nh ⟨hw0, hw1⟩ hb
    rw [Et]
    unfold dH at ih ⊢
    rw [List.map_cons, List.sum_cons, if_pos hw, ← ih]
    push_cast
    rw [Int.toNat_of_nonneg hh0, Int.toNat_of_nonneg hr.2.2.1]
theorem GU {w h : Int} : ∀ p ∈ aE w h, 0 < p.w := fun p hp => by
  have := (List.mem_filter.1 hp).2
  simp only [Bool.and_eq_true, decide_eq_true_eq] at this
  exact this.1
theorem K1 {w h : Int} (hw : 0 < w) : ∀ p ∈ whole w h, 0 < p.w := fun p hp => by
  unfold whole at hp
  rw [List.mem_singleton.1 hp]
  exact hw
end Go.aa
namespace Go.aa
open Go.ag Go.Sl
theorem ir : an [] := fun x hx => by cases hx
theorem xU {h : Hd} {p : Ps} {nr : Nat} (hp : 0 ≤ parts h.ar) (hd : 0 ≤ h.dep) (hnr : (nr : Int) = de p.w (parts h.ar * h.dep)) : ∀ i : Nat, (i : Int) < p.w → i * (parts h.ar).toNat * h.dep.toNat + (parts h.ar).toNat * h.dep.toNat ≤ 8 * nr := fun i hi => by
  have hb := L4 hi (Int.mul_nonneg hp hd) hnr
  have e1 : ((i * (parts h.ar).toNat * h.dep.toNat + (parts h.ar).toNat * h.dep.toNat : Nat) : Int) = (i : Int) * (parts h.ar * h.dep) + parts h.ar * h.dep := by
    push_cast
    rw [Int.toNat_of_nonneg hp, Int.toNat_of_nonneg hd, Int.mul_assoc]
  omega
end Go.aa
namespace Go.aa
open Go.ag Go.Sl
theorem ja {h : Hd} (hs : aT h.w h.h = 0) : (∀ p ∈ aN h, fS p h.w h.h ∧ iF p ∧ 0 < p.w) ∧ (aN h).length ≤ 7 := by
  have hsd := il hs
  unfold aN
  cases h.aZ with
  | true => exact ⟨fun p hp => ⟨mN (by omega) (by omega) p hp, (mN (by omega) (by omega) p hp).1, GU p hp⟩, (wa (by omega) (by omega)).2⟩
  | false => exact ⟨fun p hp => ⟨xn (by omega) (by omega) p hp, (xn (by omega) (by omega) p hp).1, K1 (by omega) p hp⟩, (wR (by omega) (by omega)).2⟩
theorem Cq {h : Hd} (hl : h.aZ = true) : aE h.w h.h = aN h := by unfold aN; rw [hl]; rfl
theorem Cr {h : Hd} (hl : h.aZ = false) : whole h.w h.h = aN h := by unfold aN; rw [hl]; rfl
def kY (f : Fl) (z : List Int × Int) : pC × Int := if z.2 ≠ 0 then (dM, z.2) else if (z.1.length : Int) < want f.hd then (dM, 2) else match eo f z.1 (aN f.hd) 0 (jd f.hd) with | none => (dM, 4) | some pix => (⟨f.hd.w, f.hd.h, pix⟩, 0)
theorem Xs (f : Fl) (z : List Int × Int) : (z.2 ≠ 0 ∧ kY f z = (dM, z.2)) ∨ (¬ z.2 ≠ 0 ∧ (z.1.length : Int) < want f.hd ∧ kY f z = (dM, 2)) ∨ (¬ z.2 ≠ 0 ∧ ¬ (z.1.length : Int) < want f.hd) := by
  by_cases h1 : z.2 ≠ 0
  · exact .inl ⟨h1, if_pos h1⟩
  · by_cases h2 : (z.1.length : Int) < want f.hd
    · exact .inr (.inl ⟨h1, h2, by unfold kY; rw [if_neg h1, if_pos h2]⟩)
    · exact .inr (.inr ⟨h1, h2⟩)
theorem IW {f : Fl} {z : List Int × Int} (h1 : ¬ z.2 ≠ 0) (h2 : ¬ (z.1.length : Int) < want f.hd) (h : eo f z.1 (aN f.hd) 0 (jd f.hd) = none) : kY f z = (dM, 4) := by unfold kY; rw [if_neg h1, if_neg h2, h]
theorem JH {f : Fl} {z : List Int × Int} {pix : List Int} (h1 : ¬ z.2 ≠ 0) (h2 : ¬ (z.1.length : Int) < want f.hd) (h : eo f z.1 (aN f.hd) 0 (jd f.hd) = some pix) : kY f z = (⟨f.hd.w, f.hd.h, pix⟩, 0) := by unfold kY; rw [if_neg h1, if_neg h2, h]
theorem Ev {h : Hd} (hs : aT h.w h.h = 0) (hd : deep h.ar h.dep) : (m0 (bitsOf h) (aN h) : Int) = want h := by
  have hb := lg hd
  exact tz ⟨by unfold bitsOf; omega, by unfold bitsOf; omega⟩ (fun p hp => ⟨((ja hs).1 p hp).2.1, ((ja hs).1 p hp).2.2⟩)
theorem Lt {h : Hd} (hs : aT h.w h.h = 0) (hd : deep h.ar h.dep) : 0 ≤ want h ∧ want h < 500000000 := by
  have hb := lg hd
  have h1 := vH (l := aN h) (bits := bitsOf h) ⟨by unfold bitsOf; omega, by unfold bitsOf; omega⟩ (fun p hp => ((ja hs).1 p hp).2.1)
  have h7 := (ja hs).2
  unfold want
  omega
theorem uG {l : List Ps} {i : Nat} (h : i < l.length) : l.drop i = l.getD i ⟨0, 0, 0, 0, 0, 0⟩ :: l.drop (i + 1) := by
  rw [List.drop_eq_getElem_cons h, List.getD_eq_getElem?_getD, List.getElem?_eq_getElem h]
  rfl
def kM (h : Hd) (p : Ps) : Nat := (de p.w (bitsOf h)).toNat
def mU (h : Hd) : Nat := (max 1 (bitsOf h / 8)).toNat
theorem Aw {h : Hd} {p : Ps} (hp : iF p) (hd : deep h.ar h.dep) : (kM h p : Int) = de p.w (parts h.ar * h.dep) := by
  have hb := lg hd
  obtain ⟨_, _, _, _, _, _, hw0, hw1, _, _⟩ := hp
  have := nh (w := p.w) (bits := parts h.ar * h.dep) ⟨hw0, hw1⟩ (by omega)
  exact Int.toNat_of_nonneg this.2.2.1
theorem zy (h : Hd) : (mU h : Int) = max 1 (parts h.ar * h.dep / 8) := Int.toNat_of_nonneg (by unfold bitsOf; omega)
section
variable {f : Fl} {D : List Int} {l : List Ps} {i a : Nat} {P : List Int} {x : Ps} {r : Option (List Int)}
theorem Of (hi : i < l.length) (hx : x = l.getD i ⟨0, 0, 0, 0, 0, 0⟩) (hr : dO f D (kM f.hd x) (mU f.hd) x x.h.toNat 0 a [] P = none) (h : eo f D (l.drop i) a P = r) : r = none := by
  rw [uG hi, ← hx, eo] at h
  unfold kM mU at hr
  rw [hr] at h
  exact h.symm
theorem RT {a2 : Nat} {P2 : List Int} (hi : i < l.length) (hx : x = l.getD i ⟨0, 0, 0, 0, 0, 0⟩) (hr : dO f D (kM f.hd x) (mU f.hd) x x.h.toNat 0 a [] P = some (a2, P2)) (h : eo f D (l.drop i) a P = r) : eo f D (l.drop (i + 1)) a2 P2 = r := by
  rw [uG hi, ← hx, eo] at h
  unfold kM mU at hr
  rw [hr] at h
  exact h
theorem M6 (hi : ¬ i < l.length) (h : eo f D (l.drop i) a P = r) : r = some P := by
  rw [List.drop_eq_nil_of_le (by omega), eo] at h
  exact h.symm
theorem N7 {bits : Int} (hi : i < l.length) (hx : x = l.getD i ⟨0, 0, 0, 0, 0, 0⟩) : m0 bits (l.drop i) = x.h.toNat * (1 + (de x.w bits).toNat) + m0 bits (l.drop (i + 1)) := by rw [uG hi, ← hx, Et]
theorem XM (o : Option (Nat × List Int)) : o = none ∨ ∃ a P, o = some (a, P) := by
  match o with
  | none => exact .inl rfl
  | some (a, P) => exact .inr ⟨a, P, rfl⟩
end
inductive Zc (B : List Int) (r : pC × Int) : Prop
  | cut (e : Int) (h : aa.cut B = .error e) (hr : r = (dM, e))
  | ord (l : List Ch) (h : aa.cut B = .ok l) (ho : cD l = false) (hr : r = (dM, 4))
  | head (l : List Ch) (h : aa.cut B = .ok l) (ho : cD l = true) (hh : eF (dr l) ≠ 0) (hr : r = (dM, eF (dr l)))
  | tab1 (l : List Ch) (h : aa.cut B = .ok l) (ho : cD l = true) (hh : eF (dr l) = 0) (ht : ¬ iy (aL (dr l)) (bD l aS) (dZ l aS)) (hr : r = (dM, 4))
  | tab2 (l : List Ch) (h : aa.cut B = .ok l) (ho : cD l = true) (hh : eF (dr l) = 0) (ht : iy (aL (dr l)) (bD l aS) (dZ l aS)) (hc : ¬ iM (aL (dr l)) (bD l aS) (bD l aY) (dZ l aY)) (hr : r = (dM, 4))
  | open_ (l : List Ch) (z : List Int × Int) (h : aa.cut B = .ok l) (ho : cD l = true) (hh : eF (dr l) = 0) (ht : iy (aL (dr l)) (bD l aS) (dZ l aS)) (hc : iM (aL (dr l)) (bD l aS) (bD l aY) (dZ l aY)) (hz : aH.mv (bU l) (want (aL (dr l))) z) (hr : r = kY (oU l) z)
theorem ku.X0 {B : List Int} {r : pC × Int} (h : ku B r) : Zc B r := by
  rcases h.ways with ⟨e, h1, h2⟩ | ⟨l, h1, h2, h3⟩ | ⟨l, h1, h2, h3, h4⟩ | ⟨l, h1, h2, h3, h4, h5⟩ | ⟨l, q, h1, h2, h3, h4, h5, h6⟩
  · exact .cut e h1 h2
  · exact .ord l h1 h2 h3
  · exact .head l h1 h2 h3 h4
  · by_cases ha : iy (aL (dr l)) (bD l aS) (dZ l aS)
    · exact .tab2 l h1 h2 h3 ha (fun q => h4 ⟨ha, q⟩) h5
    · exact .tab1 l h1 h2 h3 ha h5
  · refine .open_ l q h1 h2 h3 h4.1 h4.2 h5 ?_
    rcases h6 with ⟨a, b⟩ | ⟨a, b, c⟩ | ⟨a, b, c, d⟩ | ⟨pix, a, b, c, d⟩
    · rw [b]; unfold kY; rw [if_pos a]
    · rw [c]; unfold kY; rw [if_neg (fun q => q a)]; exact (if_pos b).symm
    · rw [d]; exact (IW (fun q => q a) (by show ¬ _ < want (aL (dr l)); omega) c).symm
    · rw [d]; exact (JH (f := oU l) (fun q => q a) (by show ¬ _ < want (aL (dr l)); omega) c).symm
theorem sA {B : List Int} (h : eF B = 0) : deep (aL B).ar (aL B).dep ∧ aT (aL B).w (aL B).h = 0 := by
  rcases D1 B with ⟨_, e⟩ | ⟨_, _, e⟩ | ⟨_, _, _, e⟩ | ⟨_, _, _, _, e⟩ | ⟨_, _, _, _, _, e⟩ | ⟨_, _, _, _, _, _, e⟩ | ⟨_, _, _, _, _, _, _, e⟩ | ⟨_, h1, _, _, _, _, h2, _⟩
  all_goals first | (rw [h] at e; exact absurd e (by decide)) | exact ⟨h1, Classical.not_not.1 h2⟩
theorem L6 {h : Hd} {pl tr : List Int} {has is : Bool} (hd : deep h.ar h.dep) (hB : an pl) (hBt : an tr) (hpl : pl.length < 500000000) (htl : tr.length < 500000000) (ha : iy h pl has) (hc : iM h pl tr is) (h0 : has = false → pl = []) (h1 : is = false → tr = []) : fq ⟨h, pl, tr⟩ := by
  refine ⟨hd, hB, hBt, hpl, htl, fun q => ?_, fun q => ?_, fun q => ?_, fun q => ?_⟩
  all_goals have q : _ := q
  · cases is with
    | false => exact .inl (by rw [h1 rfl]; rfl)
    | true => have := hc rfl; have q : h.ar = 0 := q; show tr.length = 0 ∨ tr.length = 2; omega
  · cases is with
    | false => exact .inl (by rw [h1 rfl]; rfl)
    | true => have := hc rfl; have q : h.ar = 2 := q; show tr.length = 0 ∨ tr.length = 6; omega
  · cases is with
    | false => exact h1 rfl
    | true => have := hc rfl; have q : h.ar = 4 ∨ h.ar = 6 := q; omega
  · have q : h.ar = 3 := q
    cases has with
    | false => exact absurd q ha
    | true => exact ha.2.2.1
theorem LO (h : Hd) : dH (aN h) (parts h.ar * h.dep) = want h := rfl
theorem Hn {l : List Ps} {i : Nat} (h : i < l.length) : l.getD i ⟨0, 0, 0, 0, 0, 0⟩ ∈ l := by
  rw [List.getD_eq_getElem?_getD, List.getElem?_eq_getElem h]
  exact List.getElem_mem h
theorem SI {B : List Int} {mo : Int} {q : List Int × Int} (hB : an B) (hm : mo < 500000000) (h : aH.mv B mo q) : an q.1 ∧ q.1.length < 500000000 := by
  rcases h.ways hB hm with ⟨_, rfl⟩ | ⟨_, _, rfl⟩ | ⟨e, _, _, _, _, rfl⟩ | ⟨x, n, _, _, _, _, _, _, _, rfl⟩ | ⟨x, n, _, _, _, _, _, _, _, rfl⟩ | ⟨x, n, _, _, _, _, _, _, _, _, rfl⟩ | ⟨x, n, _, _, _, h1, h2, _, _, _, rfl⟩
  · exact ⟨ir, Nat.zero_lt_succ _⟩
  · exact ⟨ir, Nat.zero_lt_succ _⟩
  · exact ⟨ir, Nat.zero_lt_succ _⟩
  · exact ⟨ir, Nat.zero_lt_succ _⟩
  · exact ⟨ir, Nat.zero_lt_succ _⟩
  · exact ⟨ir, Nat.zero_lt_succ _⟩
  · exact ⟨h1, h2⟩
end Go.aa
namespace Go.aa
open Go.ag Go.Sl
theorem FT {L : List Int} {e : Int} (h : first L = .error e) : e ≠ 0 := by
  unfold first at h
  split at h
  · cases h; decide
  · split at h
    · cases h; decide
    · split at h
      · cases h; decide
      · split at h
        · cases h
        · cases h; decide
theorem Ay : ∀ {f : Nat} {L : List Int} {a : List Ch} {e : Int}, fu f L a = .error e → e ≠ 0
  | 0, L, a, e, h => by rw [fu] at h; cases h; decide
  | f + 1, L, a, e, h => by
    rw [fu] at h
    split at h
    · rename_i e' he; cases h; exact FT he
    · split at h
      · split at h
        · cases h
        · cases h; decide
      · exact Ay h
theorem NF {B : List Int} {e : Int} (h : cut B = .error e) : e ≠ 0 := by
  unfold cut at h
  split at h
  · cases h; decide
  · split at h
    · cases h; decide
    · split at h
      · exact Ay h
      · cases h; decide
theorem kF {l : List Ch} (h : ∀ c ∈ l, an c.d) (k : List Int) : an (bD l k) := by
  unfold bD
  split
  · rename_i c hc; exact h c (List.mem_of_find?_eq_some hc)
  · exact ir
theorem Pj {l : List Ch} {h : Hd} {P T : List Int} (h1 : h = aL (dr l)) (h2 : P = bD l aS) (h3 : T = bD l aY) : oU l = ⟨h, P, T⟩ := by subst h1; subst h2; subst h3; rfl
end Go.aa
namespace Go.aa
open Go.ag Go.Sl
theorem NM {L : List Ch} {i : Nat} {x : Ch} (h : L[i]? = some x) : aX (L.take (i + 1)) = aX (L.take i) ++ e9 x := by
  rw [mE h]
  unfold aX gN
  rw [List.flatMap_append, List.append_assoc]
  simp
theorem join_le (L : List Ch) (i : Nat) : (aX (L.take i)).length ≤ (aX L).length := by
  conv => rhs; rw [← List.take_append_drop i L]
  unfold aX gN
  rw [List.flatMap_append]
  simp only [List.length_append]
  omega
theorem Oq (L : List Ch) : aX (L.take 0) = ee := by unfold aX gN; simp
theorem OA {J k d : List Int} {n s : Int} (hn : n = (d.length : Int)) (hs : s = gn k d) : J ++ [n / 16777216 % 256, n / 65536 % 256, n / 256 % 256, n % 256] ++ k ++ d ++ [s / 16777216 % 256, s / 65536 % 256, s / 256 % 256, s % 256] = J ++ e9 ⟨k, d⟩ := by
  subst hn; subst hs
  unfold e9 nH
  simp only [List.append_assoc]
theorem F2 (x : Ch) : (e9 x).length = 4 + x.k.length + x.d.length + 4 := by
  unfold e9
  simp only [List.length_append, Bj]
  omega
theorem Nw (P : List Int) (W y : Nat) : bX P W y ++ [0] ++ two ((P.drop (4 * W * y)).take (4 * W)) = bX P W (y + 1) := by
  rw [bX, hI, List.append_assoc]; rfl
theorem Ua {l : List Int} {i : Nat} (h : i < l.length) : two (l.take i) ++ [l.getD i 0 / 256, l.getD i 0 % 256] = two (l.take (i + 1)) := by
  rw [List.take_add_one]
  unfold two
  rw [List.flatMap_append]
  congr 1
  simp [h, List.getD_eq_getElem?_getD]
theorem L9 : ku [] (dM, 2) := by
  unfold ku cut
  rfl
theorem D9 : Sz [0, 0, 7, 65535] 1 1 := ⟨by decide, by decide, by decide, rfl, fun x hx => by
  simp only [List.mem_cons, List.not_mem_nil, or_false] at hx
  rcases hx with rfl | rfl | rfl | rfl <;> decide⟩
end Go.aa
namespace Go.aa
open Go.ag Go.Sl
theorem CG {P : List Int} {W H y i : Nat} (hP : P.length = 4 * W * H) (hy : y < H) (hi : i < 4 * W) : ((P.drop (4 * W * y)).take (4 * W)).length = 4 * W ∧ ((P.drop (4 * W * y)).take (4 * W)).getD i 0 = P.getD (4 * W * y + i) 0 ∧ 4 * W * y + i < P.length := by
  have : 4 * W * (y + 1) ≤ 4 * W * H := Nat.mul_le_mul_left _ hy
  rw [Nat.mul_succ] at this
  refine ⟨by rw [List.length_take, List.length_drop]; omega, ?_, by omega⟩
  rw [List.getD_eq_getElem?_getD, List.getD_eq_getElem?_getD, List.getElem?_take, if_pos hi, List.getElem?_drop]
theorem Al {P : List Int} {W H y : Nat} (s : Sz P W H) (hy : y ≤ H) : (bX P W y).length ≤ 131328 := by
  obtain ⟨r, h⟩ := rY P W y (H - y)
  have h2 := ng s
  rw [show y + (H - y) = H by omega] at h
  rw [h, List.length_append] at h2
  omega
def jO (P : List Int) (W y i : Nat) : List Int := bX P W y ++ [0] ++ two (((P.drop (4 * W * y)).take (4 * W)).take i)
theorem Dy (P : List Int) (W y : Nat) : bX P W y ++ [0] = jO P W y 0 := by unfold jO; simp [two]
theorem SF {P : List Int} {W H y i : Nat} (hP : P.length = 4 * W * H) (hy : y < H) (hi : i < 4 * W) : jO P W y i ++ [P.getD (4 * W * y + i) 0 / 256, P.getD (4 * W * y + i) 0 % 256] = jO P W y (i + 1) := by
  obtain ⟨h1, h2, _⟩ := CG hP hy hi
  unfold jO
  rw [← h2, List.append_assoc, Ua (by omega)]
theorem OF {P : List Int} {W H y : Nat} (hP : P.length = 4 * W * H) (hy : y < H) : jO P W y (4 * W) = bX P W (y + 1) := by
  unfold jO
  rw [List.take_of_length_le (Nat.le_trans (List.length_take_le _ _) (Nat.le_refl _))]
  exact Nw P W y
theorem Lo {P : List Int} {W H y i : Nat} (s : Sz P W H) (hy : y ≤ H) (hi : i ≤ 4 * W) : (jO P W y i).length ≤ 140000 := by
  have h1 := Al s hy
  have h2 := s.w.2
  unfold jO
  simp only [List.length_append, qX, List.length_take, List.length_cons, List.length_nil]
  omega
theorem Nb {P : List Int} {W H : Nat} (s : Sz P W H) : P.length ≤ 65536 := by
  have h1 := s.len
  have h2 := s.wh
  rw [Nat.mul_assoc] at h1
  omega
theorem TO {p : Ps} {w h : Int} (hp : fS p w h) {y j : Nat} (hy : (y : Int) < p.h) (hj : (j : Int) < p.w) : (4 * ((p.y + y * p.dy) * w + (p.x + j * p.dx))).toNat + 4 ≤ (4 * w * h).toNat := by
  have hX := hp.2.1 j (by omega) hj
  have hY := hp.2.2 y (by omega) hy
  obtain ⟨x0, _, y0, _, hdx, hdy, _⟩ := hp.1
  have hjx : 0 ≤ (j : Int) * p.dx := by rcases hdx with e | e | e | e <;> rw [e] <;> omega
  have hyy : 0 ≤ (y : Int) * p.dy := by rcases hdy with e | e | e | e <;> rw [e] <;> omega
  have := qC (w := w) (h := h) (x := p.x + j * p.dx) (y := p.y + y * p.dy) ⟨by omega, hX⟩ ⟨by omega, hY⟩
  have e : 4 * w * h = 4 * (w * h) := Int.mul_assoc _ _ _
  omega
def Good (r : pC × Int) : Prop := (r.2 ≠ 0 ∧ r.1 = dM) ∨ (r.2 = 0 ∧ aT r.1.w r.1.h = 0 ∧ (r.1.pix.length : Int) = 4 * r.1.w * r.1.h)
end Go.aa
namespace Go.aa
open Go.ag Go.Sl
theorem Tj {w h : Int} {L : List Int} (hs : aT w h = 0) (hn : (L.length : Int) = 4 * w * h) (hU : jA L) : ∃ W H : Nat, w = (W : Int) ∧ h = (H : Int) ∧ Sz L W H := by
  have hd := il hs
  obtain ⟨W, rfl⟩ : ∃ W : Nat, w = (W : Int) := ⟨w.toNat, by omega⟩
  obtain ⟨H, rfl⟩ : ∃ H : Nat, h = (H : Int) := ⟨h.toNat, by omega⟩
  refine ⟨W, H, rfl, rfl, ⟨by omega, by omega, ?_, ?_, hU⟩⟩
  · have : ((W * H : Nat) : Int) ≤ 16384 := by rw [Int.natCast_mul]; exact hd.2.2.2.2.2
    omega
  · have : (L.length : Int) = ((4 * W * H : Nat) : Int) := by rw [hn, Int.natCast_mul, Int.natCast_mul]; rfl
    omega
end Go.aa
namespace Go.Sl
abbrev I3 : Ec Int := aD 3 .i64
abbrev pX : Ec (Int × Int) := ⟨279, 2, fun x => [.int .i64 x.1, .int .i64 x.2], (0, 0), fun _ => rfl, fun _ => rfl⟩
structure Cv where
  p1 : Option Addr
  c1 : Nat
  p2 : Option Addr
  c2 : Nat
def HC (b : Nat) (ls : List Int) : ad := fun w0 h => ∃ i : Cv, True ∧ bW w0 [ai b 275 (CA [.slice i.p1 ls.length i.c1] .i64 (ae.bJ ls) [.slice i.p2 (ae.ord ls).length i.c2, .int .i64 (ae.bY ls)]), Row pX i.p1 ls.length i.c1 (ae.words ls), Row I3 i.p2 (ae.ord ls).length i.c2 (ae.ord ls)] h
theorem oI {b c1 c2 : Nat} {p1 p2 : Option Addr} {ls : List Int} {ws : List (Int × Int)} {w0 : World} {h : Hp} (e : ws = ae.words ls)
    (hh : bW w0 [ai b 275 (CA [.slice p1 ls.length c1] .i64 (ae.bJ ls) [.slice p2 (ae.ord ls).length c2, .int .i64 (ae.bY ls)]), Row pX p1 ls.length c1 ws, Row I3 p2 (ae.ord ls).length c2 (ae.ord ls)] h) : HC b ls w0 h := by
  subst e; exact ⟨⟨p1, c1, p2, c2⟩, trivial, hh⟩
end Go.Sl
namespace Go.Sl
def RC (b : Nat) (ls : List Int) : ad := fun w0 h => ∃ i : Cv, True ∧ bW w0 [ai b 231 (CA [] .i64 (ae.bJ ls) [.slice i.p1 (ae.ord ls).length i.c1, .slice i.p2 ls.length i.c2]), Row I3 i.p1 (ae.ord ls).length i.c1 (ae.ord ls), Row I3 i.p2 ls.length i.c2 ls] h
end Go.Sl
namespace Go.Sl
abbrev U5 : Ec Int := aD 5 .u8
structure Lv where
  p1 : Option Addr
  c1 : Nat
  p2 : Option Addr
  c2 : Nat
def LW (b : Nat) (B : List Int) (at_ : Nat) (out : List Int) (free : Int) : ad := fun w0 h => ∃ i : Lv, True ∧ bW w0 [ai b 236 [.slice i.p1 B.length i.c1, .slice i.p2 out.length i.c2, .int .i64 (at_ : Int), .int .i64 free], Row U5 i.p1 B.length i.c1 B, Row U5 i.p2 out.length i.c2 out] h
theorem oJ {b at_ : Nat} {p1 p2 : Option Addr} {c1 c2 : Nat} {B out : List Int} {free : Int} {w0 : World} {h : Hp}
    (hh : bW w0 [ai b 236 [.slice p1 B.length c1, .slice p2 out.length c2, .int .i64 (at_ : Int), .int .i64 free], Row U5 p1 B.length c1 B, Row U5 p2 out.length c2 out] h) : LW b B at_ out free w0 h := ⟨⟨p1, c1, p2, c2⟩, trivial, hh⟩
def WB (b : Nat) (bs : List Int) : ad := fun w0 h => ∃ i : List Int × Nat, (ag.Pk bs i.1 i.2 ∧ i.2 < 8) ∧ bW w0 [LW b [] 0 i.1 (i.2 : Int)] h
end Go.Sl
namespace Go.Sl
structure Mi where
  po : Option Addr
  co : Nat
def MS (b bl : Nat) (sz mo : Int) (li di : Value) (s : ab.St) : ad := fun w0 h => ∃ i : Mi, True ∧ bW w0 [ai b 223 [.pointer (some ⟨bl, 0, none⟩), .int .i64 sz, .int .i64 mo, .slice i.po s.out.length i.co, .bool s.ended, .int .i64 0, .int .i64 s.kind, .int .i64 (s.left : Int), .bool s.last, li, di, .int .i64 (s.ax : Int), .int .i64 (s.bA : Int)], Row U5 i.po s.out.length i.co s.out] h
theorem cJ {b bl : Nat} {sz mo : Int} {li di : Value} {s : ab.St} {po : Option Addr} {co n : Nat} {w0 : World} {h : Hp} (hn : n = s.out.length)
    (hh : bW w0 [ai b 223 [.pointer (some ⟨bl, 0, none⟩), .int .i64 sz, .int .i64 mo, .slice po n co, .bool s.ended, .int .i64 0, .int .i64 s.kind, .int .i64 (s.left : Int), .bool s.last, li, di, .int .i64 (s.ax : Int), .int .i64 (s.bA : Int)], Row U5 po n co s.out] h) : MS b bl sz mo li di s w0 h := by
  subst hn; exact ⟨⟨po, co⟩, trivial, hh⟩
theorem re {b bl : Nat} {sz mo : Int} {li di : Value} {s : ab.St} {w0 : World} {h : Hp} (hh : MS b bl sz mo li di s w0 h) : ∃ i : Mi, True ∧ bW w0 [ai b 223 [.pointer (some ⟨bl, 0, none⟩), .int .i64 sz, .int .i64 mo, .slice i.po s.out.length i.co, .bool s.ended, .int .i64 0, .int .i64 s.kind, .int .i64 (s.left : Int), .bool s.last, li, di, .int .i64 (s.ax : Int), .int .i64 (s.bA : Int)], Row U5 i.po s.out.length i.co s.out] h := hh
structure Vx where
  v3 : Value
  v4 : Value
  v5 : Value
  v6 : Value
  v7 : Value
  v8 : Value
  v9 : Value
  v10 : Value
  v11 : Value
  v12 : Value
def MX (b bl : Nat) (sz mo : Int) : ad := fun w0 h => ∃ i : Vx, True ∧ bW w0 [ai b 223 [.pointer (some ⟨bl, 0, none⟩), .int .i64 sz, .int .i64 mo, i.v3, i.v4, i.v5, i.v6, i.v7, i.v8, i.v9, i.v10, i.v11, i.v12]] h
theorem bP {b bl : Nat} {sz mo : Int} {v3 v4 v5 v6 v7 v8 v9 v10 v11 v12 : Value} {w0 : World} {h : Hp}
    (hh : bW w0 [ai b 223 [.pointer (some ⟨bl, 0, none⟩), .int .i64 sz, .int .i64 mo, v3, v4, v5, v6, v7, v8, v9, v10, v11, v12]] h) : MX b bl sz mo w0 h := ⟨⟨v3, v4, v5, v6, v7, v8, v9, v10, v11, v12⟩, trivial, hh⟩
def PE (e : Int) (ch : List PanicEntry) : Prop := (ch = jz 194 (.agg #[]) ∧ e = 2) ∨ (ch = jz 237 (.agg #[]) ∧ e = 4) ∨ (ch = jz 27 (.int .i64 e) ∧ e ≠ 0)
theorem PE.no {e : Int} (h : e ≠ 0) : PE e (jz 27 (.int .i64 e)) := .inr (.inr ⟨rfl, h⟩)
theorem PE.end_ : PE 2 (jz 194 (.agg #[])) := .inl ⟨rfl, rfl⟩
theorem PE.none_ : PE 4 (jz 237 (.agg #[])) := .inr (.inl ⟨rfl, rfl⟩)
def gD {α : Type} (E : Except Int α) (R : α → Value → List ad → Prop) (Gx : List ad) : Ending → List ad → Prop := s8 (fun v G => ∃ x, E = .ok x ∧ R x v G) (fun ch G => ∃ e, E = .error e ∧ PE e ch ∧ G = Gx)
section
variable {P : Program} {f : FuncId} {args : List Value} {Pre Gx : List ad} {α : Type} {E : Except Int α} {R : α → Value → List ad → Prop}
theorem az.ok {x : α} (h : az P f args Pre (gD E R Gx)) (hE : E = .ok x) : az P f args Pre (aG (R x)) := h.mono fun e G h => by
  rcases h with ⟨v, rfl, x', h1, h2⟩ | ⟨ch, rfl, e', h1, _⟩
  · rw [hE] at h1; cases h1; exact ⟨v, rfl, h2⟩
  · rw [hE] at h1; cases h1
theorem az.err {e : Int} (h : az P f args Pre (gD E R Gx)) (hE : E = .error e) : az P f args Pre (rH fun ch G => PE e ch ∧ G = Gx) := h.mono fun e' G h => by
  rcases h with ⟨v, rfl, x', h1, h2⟩ | ⟨ch, rfl, e', h1, h2⟩
  · rw [hE] at h1; cases h1
  · rw [hE] at h1; cases h1; exact ⟨ch, rfl, h2⟩
variable {C : Ctx} {Q : QT} {En : Env} {L F G : List ad} {rs : Array ResultVar} {v : Value} {ch : List PanicEntry}
theorem jU {x : α} (hE : E = .ok x) (hr : ks C rs En L v) (hR : R x v G) (hs : Sub L (G ++ F)) : oz C rs F (gD E R Gx) .ret En L := ⟨v, G, hr, .inl ⟨v, rfl, x, hE, hR⟩, hs⟩
theorem gv {x : α} (hE : E = .ok x) (hr : ks C rs En L v) (hR : R x v G) (hs : Sub L (G ++ F)) : oz C rs F (gD E R Gx) .normal En L := ⟨v, G, hr, .inl ⟨v, rfl, x, hE, hR⟩, hs⟩
theorem dk {e : Int} (hE : E = .error e) (hp : PE e ch) (hs : Sub L (Gx ++ F)) : oz C rs F (gD E R Gx) (.panic ch) En L := ⟨Gx, .inr ⟨ch, rfl, e, hE, hp, rfl⟩, hs⟩
theorem ko {e : Int} (hE : E = .error e) (hp : PE e ch) (hs : Sub L (Gx ++ F)) : ∃ G, gD E R Gx (.panicked ch) G ∧ Sub L (G ++ F) := ⟨Gx, .inr ⟨ch, rfl, e, hE, hp, rfl⟩, hs⟩
end
theorem vo {M F : List ad} : Drop (M ++ F) F := by
  induction M with
  | nil => exact .refl
  | cons a M ih => exact .skip ih
theorem zl {a0 : ad} {M F : List ad} : Drop (a0 :: (M ++ F)) F := .skip vo
end Go.Sl
namespace Go.Proofs.YtmaiakpjgomnpaaGreat
open Go.Sl
theorem V.a194 : fT Tryz.prog 194 = some 0 := by kernel_rfl
theorem V.a229 : fT Tryz.prog 229 = some 16 := by kernel_rfl
theorem V.WZ : fT Tryz.prog 237 = some 0 := by kernel_rfl
theorem V.Sw : fT Tryz.prog 246 = some 2 := by kernel_rfl
theorem V.W1 : fT Tryz.prog 279 = some 2 := by kernel_rfl
theorem V.qZ : iX Tryz.prog 229 = some (16, 3, 1) := by kernel_rfl
theorem V.CC : iX Tryz.prog 246 = some (2, 3, 1) := by kernel_rfl
theorem V.W6 : ay Tryz.prog 103 = true := by kernel_rfl
theorem V.Na : ay Tryz.prog 118 = true := by kernel_rfl
theorem V.WU : ay Tryz.prog 119 = true := by kernel_rfl
theorem V.Ms : ay Tryz.prog 128 = true := by kernel_rfl
theorem V.XJ : ay Tryz.prog 135 = true := by kernel_rfl
theorem V.OP : ay Tryz.prog 145 = true := by kernel_rfl
theorem V.u4 : ay Tryz.prog 146 = true := by kernel_rfl
theorem V.XS : ay Tryz.prog 147 = true := by kernel_rfl
theorem V.P4 : ay Tryz.prog 148 = true := by kernel_rfl
theorem V.OB : ay Tryz.prog 149 = true := by kernel_rfl
theorem V.NT : ay Tryz.prog 150 = true := by kernel_rfl
theorem V.XC : ay Tryz.prog 160 = true := by kernel_rfl
theorem V.XG : ay Tryz.prog 166 = true := by kernel_rfl
theorem V.MY : ay Tryz.prog 167 = true := by kernel_rfl
theorem V.OE : ay Tryz.prog 168 = true := by kernel_rfl
theorem V.MH : ay Tryz.prog 169 = true := by kernel_rfl
theorem V.Xw : ay Tryz.prog 170 = true := by kernel_rfl
theorem V.RQ : ay Tryz.prog 178 = true := by kernel_rfl
theorem V.uw : ay Tryz.prog 179 = true := by kernel_rfl
theorem V.M7 : ay Tryz.prog 180 = true := by kernel_rfl
theorem V.OL : ay Tryz.prog 181 = true := by kernel_rfl
theorem V.MW : ay Tryz.prog 182 = true := by kernel_rfl
theorem V.eg : ay Tryz.prog 183 = true := by kernel_rfl
theorem V.MP : ay Tryz.prog 195 = true := by kernel_rfl
theorem V.kJ : ay Tryz.prog 197 = true := by kernel_rfl
theorem V.Xi : ay Tryz.prog 198 = true := by kernel_rfl
theorem V.WS : ay Tryz.prog 199 = true := by kernel_rfl
theorem V.Oh : ay Tryz.prog 200 = true := by kernel_rfl
theorem V.qu : ay Tryz.prog 201 = true := by kernel_rfl
theorem V.RM : ay Tryz.prog 202 = true := by kernel_rfl
theorem V.Mh : ay Tryz.prog 203 = true := by kernel_rfl
theorem V.Xj : ay Tryz.prog 204 = true := by kernel_rfl
theorem V.W2 : ay Tryz.prog 215 = true := by kernel_rfl
theorem V.WN : ay Tryz.prog 216 = true := by kernel_rfl
theorem V.Xf : ay Tryz.prog 217 = true := by kernel_rfl
theorem V.XQ : ay Tryz.prog 218 = true := by kernel_rfl
theorem V.Cj : ay Tryz.prog 220 = true := by kernel_rfl
theorem V.mZ : ay Tryz.prog 221 = true := by kernel_rfl
theorem V.W0 : ay Tryz.prog 222 = true := by kernel_rfl
theorem V.No : ay Tryz.prog 223 = true := by kernel_rfl
theorem V.XK : ay Tryz.prog 229 = true := by kernel_rfl
theorem V.R6 : ay Tryz.prog 230 = true := by kernel_rfl
theorem V.M3 : ay Tryz.prog 245 = true := by kernel_rfl
theorem V.Bw : ay Tryz.prog 246 = true := by kernel_rfl
theorem V.Xp : ay Tryz.prog 253 = true := by kernel_rfl
theorem V.GZ : ay Tryz.prog 256 = true := by kernel_rfl
theorem V.Ya : ay Tryz.prog 63 = true := by kernel_rfl
theorem V.AJ : ay Tryz.prog 91 = true := by kernel_rfl
theorem V.NB : ay Tryz.prog 92 = true := by kernel_rfl
theorem V.BS : lD Tryz.prog 194 = true := by kernel_rfl
theorem V.HF : lD Tryz.prog 237 = true := by kernel_rfl
theorem V.EM : lD Tryz.prog 27 = true := by kernel_rfl
theorem V.Dc : aW Tryz.prog 156 0 = some 0 := by kernel_rfl
theorem V.w7 : aW Tryz.prog 156 2 = some 2 := by kernel_rfl
theorem V.gu : aW Tryz.prog 223 0 = some 0 := by kernel_rfl
theorem V.RW : aW Tryz.prog 223 1 = some 1 := by kernel_rfl
theorem V.uP : aW Tryz.prog 223 10 = some 10 := by kernel_rfl
theorem V.X5 : aW Tryz.prog 223 11 = some 11 := by kernel_rfl
theorem V.qJ : aW Tryz.prog 223 12 = some 12 := by kernel_rfl
theorem V.EL : aW Tryz.prog 223 2 = some 2 := by kernel_rfl
theorem V.jo : aW Tryz.prog 223 3 = some 3 := by kernel_rfl
theorem V.zd : aW Tryz.prog 223 4 = some 4 := by kernel_rfl
theorem V.SJ : aW Tryz.prog 223 5 = some 5 := by kernel_rfl
theorem V.Zf : aW Tryz.prog 223 6 = some 6 := by kernel_rfl
theorem V.YJ : aW Tryz.prog 223 7 = some 7 := by kernel_rfl
theorem V.Yp : aW Tryz.prog 223 8 = some 8 := by kernel_rfl
theorem V.xe : aW Tryz.prog 223 9 = some 9 := by kernel_rfl
theorem V.zg : aW Tryz.prog 236 0 = some 0 := by kernel_rfl
theorem V.Za : aW Tryz.prog 275 0 = some 0 := by kernel_rfl
theorem V.yH : aW Tryz.prog 275 1 = some 1 := by kernel_rfl
theorem V.Ry : aW Tryz.prog 275 2 = some 17 := by kernel_rfl
theorem V.YP : aW Tryz.prog 275 3 = some 18 := by kernel_rfl
theorem V.mixed : Tryz.prog.follows .mixedOrders = true := by kernel_rfl
theorem V.Ut : eC Tryz.prog 156 = some [(0, 1), (1, 1), (2, 1), (3, 1)] := by kernel_rfl
theorem V.Uk : eC Tryz.prog 194 = some [] := by kernel_rfl
theorem V.TI : eC Tryz.prog 223 = some [(0, 1), (1, 1), (2, 1), (3, 1), (4, 1), (5, 1), (6, 1), (7, 1), (8, 1), (9, 1), (10, 1), (11, 1), (12, 1)] := by kernel_rfl
theorem V.TY : eC Tryz.prog 236 = some [(0, 4)] := by kernel_rfl
theorem V.Up : eC Tryz.prog 237 = some [] := by kernel_rfl
theorem V.Ud : eC Tryz.prog 275 = some [(0, 1), (1, 16), (17, 1), (18, 1)] := by kernel_rfl
theorem V.Tu : eC Tryz.prog 279 = some [(0, 1), (1, 1)] := by kernel_rfl
theorem V.su : bZ Tryz.prog 204 = true := by kernel_rfl
theorem V.fW : bZ Tryz.prog 219 = true := by kernel_rfl
theorem V.jV : bZ Tryz.prog 22 = true := by kernel_rfl
theorem V.yx : bZ Tryz.prog 221 = true := by kernel_rfl
theorem V.DC : bZ Tryz.prog 27 = true := by kernel_rfl
theorem V.WV : bZ Tryz.prog 273 = true := by kernel_rfl
theorem V.s3 : bZ Tryz.prog 3 = true := by kernel_rfl
theorem V.s4 : bZ Tryz.prog 4 = true := by kernel_rfl
theorem V.nz : bZ Tryz.prog 47 = true := by kernel_rfl
theorem V.s5 : bZ Tryz.prog 5 = true := by kernel_rfl
theorem V.bN : sliceB Tryz.prog 22 = some (5, 1, 1) := by kernel_rfl
theorem V.JK : sliceB Tryz.prog 247 = some (246, 2, 16) := by kernel_rfl
theorem V.IY : sliceB Tryz.prog 273 = some (279, 2, 16) := by kernel_rfl
theorem V.cV : sliceB Tryz.prog 47 = some (3, 1, 8) := by kernel_rfl
theorem V.u3 : iK Tryz.prog 3 = true := by kernel_rfl
theorem V.u5 : iK Tryz.prog 5 = true := by kernel_rfl
theorem V.Zi : iK Tryz.prog 52 = true := by kernel_rfl
theorem V.Av : iK Tryz.prog 76 = true := by kernel_rfl
theorem V.z156 : cu Tryz.prog 156 = some ([.slice none 0 0, .slice none 0 0, .int .i64 0, .int .i64 0]) := by kernel_rfl
theorem V.z194 : cu Tryz.prog 194 = some ([]) := by kernel_rfl
theorem V.XD : cu Tryz.prog 223 = some ([.pointer none, .int .i64 0, .int .i64 0, .slice none 0 0, .bool false, .int .i64 0, .int .i64 0, .int .i64 0, .bool false, .pointer none, .pointer none, .int .i64 0, .int .i64 0]) := by kernel_rfl
theorem V.z236 : cu Tryz.prog 236 = some ([.slice none 0 0, .slice none 0 0, .int .i64 0, .int .i64 0]) := by kernel_rfl
theorem V.MR : cu Tryz.prog 237 = some ([]) := by kernel_rfl
theorem V.Ha : cu Tryz.prog 246 = some ([.int .i64 0, .int .i64 0]) := by kernel_rfl
theorem V.UR : cu Tryz.prog 27 = some ([.int .i64 0]) := by kernel_rfl
theorem V.W5 : cu Tryz.prog 275 = some ([.slice none 0 0, .int .i64 0, .int .i64 0, .int .i64 0, .int .i64 0, .int .i64 0, .int .i64 0, .int .i64 0, .int .i64 0, .int .i64 0, .int .i64 0, .int .i64 0, .int .i64 0, .int .i64 0, .int .i64 0, .int .i64 0, .int .i64 0, .slice none 0 0, .int .i64 0]) := by kernel_rfl
theorem V.RS : cu Tryz.prog 279 = some ([.int .i64 0, .int .i64 0]) := by kernel_rfl
theorem V.z3 : cu Tryz.prog 3 = some ([.int .i64 0]) := by kernel_rfl
theorem V.z5 : cu Tryz.prog 5 = some ([.int .u8 0]) := by kernel_rfl
end Go.Proofs.YtmaiakpjgomnpaaGreat
namespace Go.Proofs.YtmaiakpjgomnpaaGreat
open Go.Sl
theorem TT : jL Tryz.prog ⟨[22, 24, 47, 59, 64, 84, 140, 247], [(26, 0, 0), (26, 1, 1), (26, 2, 2), (35, 0, 0), (35, 1, 1), (35, 2, 2), (35, 3, 3), (35, 4, 4), (38, 0, 0), (38, 1, 1), (38, 2, 2), (38, 3, 3), (38, 4, 4), (50, 0, 0), (50, 1, 1), (57, 0, 0), (57, 1, 1), (67, 0, 0), (67, 1, 1), (67, 2, 2), (67, 3, 3), (67, 4, 4), (67, 5, 5), (88, 0, 0), (88, 1, 1), (90, 0, 0), (90, 1, 5), (90, 2, 6), (90, 3, 7), (90, 4, 8), (137, 0, 0), (137, 1, 1), (137, 2, 2), (137, 3, 3), (145, 0, 0), (145, 1, 1), (145, 2, 2), (145, 3, 3), (145, 4, 4), (145, 5, 5), (151, 0, 0), (151, 1, 1), (151, 2, 2), (151, 3, 3), (156, 0, 0), (156, 2, 2), (158, 0, 0), (175, 0, 0), (223, 0, 0), (223, 3, 3), (223, 4, 4), (223, 5, 5), (223, 6, 6), (223, 7, 7), (223, 8, 8), (223, 9, 9), (223, 10, 10), (223, 11, 11), (223, 12, 12), (231, 0, 0), (231, 1, 16), (236, 0, 0), (275, 0, 0), (275, 1, 1), (275, 2, 17), (275, 3, 18)]⟩ = true := by kernel_rfl
end Go.Proofs.YtmaiakpjgomnpaaGreat

/- Walks of functions that the law reaches, and what they lean on; no conditions. -/
import Derived.Test.YtookicfejdbddaaGreatUiD
import Derived.Test.YtookicfejdbddaaGreatUpSp
set_option linter.unusedVariables false
set_option linter.unusedSimpArgs false
set_option linter.unnecessarySimpa false
set_option maxRecDepth 100000
namespace Go.Proofs.YtookicfejdbddaaGreat
open Go.Sl Go.Cr
theorem iL_den (k : IntKind) (ρ : Ren) : ∀ l : List Nat, dens ρ (iL k l) = some (l.map fun n => Value.int k (Int.ofNat n))
  | [] => rfl
  | n :: l => dens_mk rfl (iL_den k ρ l)
def goC (n : Int) : List Int → Nat → List Int
  | [], _ => []
  | x :: l, k => if x = n then (k : Int) :: goC n l (k + 1) else goC n l (k + 1)
theorem goC_eq (n : Int) : ∀ (ls : List Int) (k : Nat), goC n ls k = ((List.range ls.length).filter (fun i => decide (ls.getD i 0 = n))).map (fun i : Nat => ((k + i : Nat) : Int))
  | [], k => rfl
  | x :: l, k => by
    have ih := goC_eq n l (k + 1)
    have hf : ((List.range l.length).map Nat.succ).filter (fun i => decide ((x :: l).getD i 0 = n)) = ((List.range l.length).filter (fun i => decide (l.getD i 0 = n))).map Nat.succ := by
      rw [List.filter_map]
      congr 1
    rw [List.length_cons, List.range_succ_eq_map, List.filter_cons, hf]
    have hm : (((List.range l.length).filter (fun i => decide (l.getD i 0 = n))).map Nat.succ).map (fun i : Nat => ((k + i : Nat) : Int)) = goC n l (k + 1) := by
      rw [ih, List.map_map]
      apply List.map_congr_left
      intro i _
      show ((k + (i + 1) : Nat) : Int) = ((k + 1 + i : Nat) : Int)
      omega
    unfold goC
    by_cases h : x = n
    · rw [if_pos h]
      simp only [List.getD_cons_zero, h, decide_true, if_true, List.map_cons, hm, Nat.add_zero]
    · rw [if_neg h]
      simp only [List.getD_cons_zero, h, decide_false, Bool.false_eq_true, if_false, hm]
theorem cls_go (ls : List Int) (n : Nat) : HuffP.cls ls n = goC n ls 0 := by
  rw [goC_eq]
  unfold HuffP.cls
  apply List.map_congr_left
  intro i _
  rw [Nat.zero_add]
def ordG (ls : List Int) : Nat → List Int
  | 0 => []
  | n + 1 => ordG ls n ++ goC ((n + 1 : Nat) : Int) ls 0
theorem ord_go (ls : List Int) : ∀ n, HuffP.ordN ls n = ordG ls n
  | 0 => rfl
  | n + 1 => by unfold HuffP.ordN ordG; rw [ord_go ls n, cls_go]
def cntG (ls : List Int) : List Int := (List.range 16).map fun n : Nat => if n = 0 then 0 else ((goC (n : Int) ls 0).length : Int)
theorem cnt_go (ls : List Int) : HuffP.cntL ls = cntG ls := by
  unfold HuffP.cntL cntG HuffP.cnt
  apply List.map_congr_left
  intro n _
  rw [cls_go]
def lensN : List Nat := List.replicate 144 8 ++ List.replicate 112 9 ++ List.replicate 24 7 ++ List.replicate 8 8
def ordN288 : List Nat := [256, 257, 258, 259, 260, 261, 262, 263, 264, 265, 266, 267, 268, 269, 270, 271, 272, 273, 274, 275, 276, 277, 278, 279, 0, 1, 2, 3, 4, 5, 6, 7, 8, 9, 10, 11, 12, 13, 14, 15, 16, 17, 18, 19, 20, 21, 22, 23, 24, 25, 26, 27, 28, 29, 30, 31, 32, 33, 34, 35, 36, 37, 38, 39, 40, 41, 42, 43, 44, 45, 46, 47, 48, 49, 50, 51, 52, 53, 54, 55, 56, 57, 58, 59, 60, 61, 62, 63, 64, 65, 66, 67, 68, 69, 70, 71, 72, 73, 74, 75, 76, 77, 78, 79, 80, 81, 82, 83, 84, 85, 86, 87, 88, 89, 90, 91, 92, 93, 94, 95, 96, 97, 98, 99, 100, 101, 102, 103, 104, 105, 106, 107, 108, 109, 110, 111, 112, 113, 114, 115, 116, 117, 118, 119, 120, 121, 122, 123, 124, 125, 126, 127, 128, 129, 130, 131, 132, 133, 134, 135, 136, 137, 138, 139, 140, 141, 142, 143, 280, 281, 282, 283, 284, 285, 286, 287, 144, 145, 146, 147, 148, 149, 150, 151, 152, 153, 154, 155, 156, 157, 158, 159, 160, 161, 162, 163, 164, 165, 166, 167, 168, 169, 170, 171, 172, 173, 174, 175, 176, 177, 178, 179, 180, 181, 182, 183, 184, 185, 186, 187, 188, 189, 190, 191, 192, 193, 194, 195, 196, 197, 198, 199, 200, 201, 202, 203, 204, 205, 206, 207, 208, 209, 210, 211, 212, 213, 214, 215, 216, 217, 218, 219, 220, 221, 222, 223, 224, 225, 226, 227, 228, 229, 230, 231, 232, 233, 234, 235, 236, 237, 238, 239, 240, 241, 242, 243, 244, 245, 246, 247, 248, 249, 250, 251, 252, 253, 254, 255]
def cnt288 : List Nat := [0, 0, 0, 0, 0, 0, 0, 24, 152, 112, 0, 0, 0, 0, 0, 0]
theorem lensN_len : lensN.length = 288 := by decide +kernel
theorem ordN_len : ordN288.length = 288 := by decide +kernel
theorem lens_len : (lensN.map Int.ofNat).length = 288 := by rw [List.length_map, lensN_len]
theorem lens_ord : HuffP.ord (lensN.map Int.ofNat) = ordN288.map Int.ofNat := by
  unfold HuffP.ord
  rw [ord_go]
  decide +kernel
theorem lens_cnt : HuffP.cntL (lensN.map Int.ofNat) = cnt288.map Int.ofNat := by
  rw [cnt_go]
  decide +kernel
theorem lens_new : HuffP.newE (lensN.map Int.ofNat) = 0 := by
  unfold HuffP.newE
  rw [if_neg (by rw [lens_len]; decide), if_pos (by decide +kernel), lens_cnt, if_pos]
  have h : HuffP.left (cnt288.map Int.ofNat) 15 = 0 := by decide
  unfold HuffP.wholeB
  rw [Bool.and_eq_true]
  refine ⟨by decide, ?_⟩
  simp [h]
noncomputable def oNewD : Or := ⟨202, 1, 4, [.sli 0 0 288 288], [⟨0, 3, 1, false, iL .i64 lensN⟩],
  [⟨0, 3, 1, false, iL .i64 lensN⟩, ⟨1, 286, 1, true, iL .i64 cnt288 ++ [.sli 2 0 288 288, .sli 3 0 288 288]⟩, ⟨2, 3, 1, false, iL .i64 ordN288⟩, ⟨3, 3, 1, false, iL .i64 lensN⟩], .tup [.ptr 1 0, .int .i64 (.ofNat 0)]⟩
attribute [local irreducible] lensN ordN288 cnt288
theorem flatI (l : List Int) : l.flatMap I3.e = l.map (Value.int .i64) := by
  induction l with
  | nil => rfl
  | cons x l ih => rw [List.flatMap_cons, ih]; rfl
theorem mapI (l : List Nat) : (l.map Int.ofNat).map (Value.int .i64) = l.map fun n => Value.int .i64 (Int.ofNat n) := by rw [List.map_map]; rfl
theorem row_cel {p : Option Addr} {n c : Nat} {l : List Nat} {w0 w : World} {F : List HProp} (hl : l.length = n) (hn : 0 < n) (hi : Inv w0 (Row I3 p n c (l.map Int.ofNat) :: F) w) : ∃ b o pre post, p = some ⟨b, o, none⟩ ∧ pre.length = o ∧ (c - n) * 1 ≤ post.length ∧ n ≤ c ∧ Inv w0 (Cel b 3 (pre ++ (l.map fun n => Value.int .i64 (Int.ofNat n)) ++ post) :: F) w := by
  have h1 : Inv w0 (Sl p n c 3 1 (l.map fun n => Value.int .i64 (Int.ofNat n)) :: F) w := Inv.imp (fun hh hc => by have := hc.2; rw [flatI, mapI] at this; exact this) hi
  have hp : p ≠ none := by
    rcases (sl_facts h1 (List.mem_cons_self)).2.2 with h0 | ⟨b', o', h0⟩
    · omega
    · rw [h0]; intro e; cases e
  obtain ⟨b, o, pre, post, e1, e2, e3, e4, e5, h2⟩ := sl_cel h1 hp
  exact ⟨b, o, pre, post, e1, e2, e4, e5, h2⟩
theorem oNewD_ok : OrS Tryz.prog oNewD := by
  intro ρ Vs hf hv
  obtain ⟨V1, us, rfl, h1, h2⟩ := dens_cons hv
  cases h2
  obtain ⟨z, hz, rfl⟩ := den_sli h1
  intro w0 F w hi
  have hR : ∀ w0 h, HO ρ ⟨0, 3, 1, false, iL .i64 lensN⟩ w0 h → RdR I3 (some ⟨z.1, z.2.1 + 0, none⟩) 288 (lensN.map Int.ofNat) w0 h := fun w0 h hh => by
    refine ⟨lens_len, ?_⟩
    have := HO_rd (o := 0) (m := 288) (sz := 1) (vs := lensN.map fun n => Value.int .i64 (Int.ofNat n)) (x := z) rfl hz (iL_den _ _ _) (by rw [List.drop_zero, Nat.mul_one, List.take_of_length_le (by rw [List.length_map, lensN_len]; exact Nat.le_refl _), List.length_map, lensN_len]) hh
    rw [List.drop_zero, Nat.mul_one, List.take_of_length_le (by rw [List.length_map, lensN_len]; exact Nat.le_refl _)] at this
    rw [flatI, mapI]
    exact this
  have hC := r_new (some ⟨z.1, z.2.1 + 0, none⟩) (288 + z.2.2) (lensN.map Int.ofNat) (HO ρ ⟨0, 3, 1, false, iL .i64 lensN⟩) (by rw [lens_len]; exact hR)
  rw [lens_len] at hC
  refine (hC w0 F w hi).mono ?_
  rintro e w' ⟨G, h3, V, rfl, ⟨_, b, rfl, rfl⟩ | ⟨h4, _⟩⟩
  rotate_left
  · exact absurd lens_new h4
  obtain ⟨⟨p1, c1, p2, c2⟩, _, h5⟩ := Inv.opn (ι := Cv) (K := fun _ => True) (B := fun i => [Cel b 286 (CA [] .i64 (cnt288.map Int.ofNat) [.slice i.p1 288 i.c1, .slice i.p2 288 i.c2]), Row I3 i.p1 288 i.c1 (ordN288.map Int.ofNat), Row I3 i.p2 288 i.c2 (lensN.map Int.ofNat)]) (fun h hh => by
    obtain ⟨i, _, hs⟩ := hh
    refine ⟨i, trivial, ?_⟩
    rw [lens_ord, lens_cnt, lens_len] at hs
    rw [show (ordN288.map Int.ofNat).length = 288 from by rw [List.length_map, ordN_len]] at hs
    exact hs) h3
  have h6 : Inv w0 (Row I3 p1 288 c1 (ordN288.map Int.ofNat) :: (Row I3 p2 288 c2 (lensN.map Int.ofNat) :: (Cel b 286 (CA [] .i64 (cnt288.map Int.ofNat) [.slice p1 288 c1, .slice p2 288 c2]) :: (HO ρ ⟨0, 3, 1, false, iL .i64 lensN⟩ :: F)))) w' := h5.perm (by
    simp only [List.cons_append, List.nil_append]
    exact (List.Perm.swap _ _ _).trans (List.Perm.cons _ (List.Perm.swap _ _ _)))
  obtain ⟨b1, o1, pre1, post1, rfl, k1, k2, k3, h7⟩ := row_cel ordN_len (by omega) h6
  obtain ⟨b2, o2, pre2, post2, rfl, m1, m2, m3, h8⟩ := row_cel lensN_len (by omega) (h7.perm (List.Perm.swap _ _ _))
  have f1 := Ren.put_fr (b, 0, 0) hf
  have f2 := Ren.put_fr (b1, o1, c1 - 288) f1
  have f3 := Ren.put_fr (b2, o2, c2 - 288) f2
  have x1 := Ren.put_ext (b, 0, 0) hf
  have x2 := Ren.put_ext (b1, o1, c1 - 288) f1
  have x3 := Ren.put_ext (b2, o2, c2 - 288) f2
  have y1 : (((ρ.put 1 (b, 0, 0)).put 2 (b1, o1, c1 - 288)).put 3 (b2, o2, c2 - 288)) 1 = some (b, 0, 0) := x3 _ _ (x2 _ _ (Ren.put_self _))
  have y2 : (((ρ.put 1 (b, 0, 0)).put 2 (b1, o1, c1 - 288)).put 3 (b2, o2, c2 - 288)) 2 = some (b1, o1, c1 - 288) := x3 _ _ (Ren.put_self _)
  have y3 : (((ρ.put 1 (b, 0, 0)).put 2 (b1, o1, c1 - 288)).put 3 (b2, o2, c2 - 288)) 3 = some (b2, o2, c2 - 288) := Ren.put_self _
  have hx : Ext ρ (((ρ.put 1 (b, 0, 0)).put 2 (b1, o1, c1 - 288)).put 3 (b2, o2, c2 - 288)) := x1.trans (x2.trans x3)
  refine ⟨_, ?_, _, rfl, ((ρ.put 1 (b, 0, 0)).put 2 (b1, o1, c1 - 288)).put 3 (b2, o2, c2 - 288), hx, f3, ?_, rfl⟩
  · show Inv w0 (HO _ ⟨0, 3, 1, false, iL .i64 lensN⟩ :: (HO _ ⟨1, 286, 1, true, iL .i64 cnt288 ++ [.sli 2 0 288 288, .sli 3 0 288 288]⟩ :: (HO _ ⟨2, 3, 1, false, iL .i64 ordN288⟩ :: (HO _ ⟨3, 3, 1, false, iL .i64 lensN⟩ :: F)))) w'
    have h9 : Inv w0 (HO _ ⟨3, 3, 1, false, iL .i64 lensN⟩ :: _) w' := Inv.imp (fun hh hc => by rw [HO_c rfl]; exact ⟨_, pre2, _, post2, y3, iL_den _ _ _, hc, m1, m2, fun e => by cases e⟩) h8
    have h10 : Inv w0 (HO _ ⟨2, 3, 1, false, iL .i64 ordN288⟩ :: _) w' := Inv.imp (fun hh hc => by rw [HO_c rfl]; exact ⟨_, pre1, _, post1, y2, iL_den _ _ _, hc, k1, k2, fun e => by cases e⟩) (h9.perm (List.Perm.swap _ _ _))
    have h11 := h10.perm ((List.Perm.cons _ (List.Perm.swap _ _ _)).trans (List.Perm.swap _ _ _))
    have h12 : Inv w0 (HO _ ⟨1, 286, 1, true, iL .i64 cnt288 ++ [.sli 2 0 288 288, .sli 3 0 288 288]⟩ :: _) w' := Inv.imp (fun hh hc => by
      rw [HO_c rfl]
      refine ⟨_, [], _, [], y1, dens_app (iL_den _ _ _) (dens_mk (V := .slice (some ⟨b1, o1, none⟩) 288 c1) ?_ (dens_mk (V := .slice (some ⟨b2, o2, none⟩) 288 c2) ?_ rfl)), ?_, rfl, by simp, fun _ => rfl⟩
      · simp only [Cr.den, y2, Nat.add_zero]
        rw [show 288 + (c1 - 288) = c1 by omega]
      · simp only [Cr.den, y3, Nat.add_zero]
        rw [show 288 + (c2 - 288) = c2 by omega]
      · have : CA [] .i64 (cnt288.map Int.ofNat) [.slice (some ⟨b1, o1, none⟩) 288 c1, .slice (some ⟨b2, o2, none⟩) 288 c2] = [] ++ ((cnt288.map fun n => Value.int .i64 (Int.ofNat n)) ++ [.slice (some ⟨b1, o1, none⟩) 288 c1, .slice (some ⟨b2, o2, none⟩) 288 c2]) ++ [] := by
          unfold CA ints
          rw [mapI]
          simp
        rw [← this]
        exact hc) h11
    have h13 := h12.perm (List.perm_middle (l₁ := [_, _, _]) (l₂ := F) (a := HO ρ ⟨0, 3, 1, false, iL .i64 lensN⟩))
    exact Inv.imp (fun hh hc => HO.ext hx hc) h13
  · show Cr.den _ (.tup [.ptr 1 0, .int .i64 (.ofNat 0)]) = some _
    simp only [Cr.den, dens, y1]
    rfl
end Go.Proofs.YtookicfejdbddaaGreat

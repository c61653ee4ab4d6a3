/- Steps of the proof: the walks of the functions that the statement reaches; printed by a program of ours. -/
import Derived.Test.YtmclopghpnndnaaHuffBase
import Derived.Test.YtmclopghpnndnaaM26
import Derived.Test.YtmclopghpnndnaaSl19
import Derived.Test.YtmclopghpnndnaaHuffA
/-
  Codes in memory.
-/
namespace Go.Sl
abbrev W63 : Ec (Int × Int) := ⟨63, 2, fun x => [.int .i64 x.1, .int .i64 x.2], (0, 0), fun _ => rfl, fun _ => rfl⟩
structure Cv where
  p1 : Option Addr
  c1 : Nat
  p2 : Option Addr
  c2 : Nat
/-- A code as 'huff' keeps it. -/
def HC (b : Nat) (ls : List Int) : HProp := fun w0 h => ∃ i : Cv, True ∧ sats w0 [Cel b 58 (CA [.slice i.p1 ls.length i.c1] .i64 (HuffP.cntL ls) [.slice i.p2 (HuffP.ord ls).length i.c2, .int .i64 (HuffP.mostL ls)]), Row W63 i.p1 ls.length i.c1 (HuffP.words ls), Row I3 i.p2 (HuffP.ord ls).length i.c2 (HuffP.ord ls)] h
theorem hc_close {b c1 c2 : Nat} {p1 p2 : Option Addr} {ls : List Int} {ws : List (Int × Int)} {w0 : World} {h : Hp} (e : ws = HuffP.words ls)
    (hh : sats w0 [Cel b 58 (CA [.slice p1 ls.length c1] .i64 (HuffP.cntL ls) [.slice p2 (HuffP.ord ls).length c2, .int .i64 (HuffP.mostL ls)]), Row W63 p1 ls.length c1 ws, Row I3 p2 (HuffP.ord ls).length c2 (HuffP.ord ls)] h) : HC b ls w0 h := by
  subst e; exact ⟨⟨p1, c1, p2, c2⟩, trivial, hh⟩
end Go.Sl

/-
  Steps of the proof: walks of functions that the statement reaches; printed by a program of ours.
-/
namespace Go.Proofs.Ytmclopghpnndnaa
open Go.Sl 
set_option linter.unusedVariables false
set_option linter.unusedSimpArgs false

attribute [local irreducible] HuffP.ord HuffP.wordsK HuffP.posn HuffP.cntL HuffP.mostL HuffP.words HuffP.wordOf HuffP.lenOf HuffP.newE HuffP.left HuffP.wholeB

set_option maxHeartbeats 1000000 in
set_option maxRecDepth 100000 in
theorem h_new (p : Option Addr) (cap : Nat) (ls : List Int) (R : HProp) (hR : ∀ w0 h, R w0 h → RdR I3 p ls.length ls w0 h) : Ctr Try.prog 10 [.slice p ls.length cap] [R] (Ret fun v G => (HuffP.newE ls = 0 ∧ ∃ b, v = .tuple #[.pointer (some ⟨b, 0, none⟩), .int .i64 0] ∧ G = [HC b ls, R]) ∨ (HuffP.newE ls ≠ 0 ∧ v = .tuple #[.pointer none, .int .i64 (HuffP.newE ls)] ∧ G = [R])) := by
  refine spec_of [(0, _)] Try.func10 rfl Try.ntmps10 rfl rfl ?_
  intro w0 F
  refine w_seq ?_
  refine w_region ?_
  refine o_box rfl (cs := [_]) rfl rfl ?_
  intro b1
  refine o_val (v_assign rfl) rfl ?_
  refine o_val (v_assign rfl) rfl ?_
  refine o_nil ?_
  refine thn_n ?_
  refine w_seq ?_
  refine w_seq ?_
  refine w_region ?_
  refine o_val (v_load V.s22 rfl (by repeat first | exact .head _ | apply List.Mem.tail) rfl) rfl ?_
  refine o_val (v_len (ty' := 0) Try.underlying22 rfl) rfl ?_
  refine o_val (v_gtr rfl rfl) rfl ?_
  refine o_nil ?_
  refine thn_n ?_
  first | refine w_condD rfl (fun h13 => ?_) (fun h13 => ?_) | refine w_cond rfl (fun h13 => ?_) (fun h13 => ?_)
  ·
    refine w_seq ?_
    refine w_region ?_
    refine o_val (v_assign rfl) rfl ?_
    refine o_val (v_assign rfl) rfl ?_
    refine o_nil ?_
    refine thn_n ?_
    refine w_ret ?_
    refine (thn_r ?_)
    exact ret_ok (G := [R]) (res2 rfl rfl) (.inr ⟨by rw [HuffP.newE_long (by omega)]; decide, by rw [HuffP.newE_long (by omega)], rfl⟩) (sub (.cons (by repeat first | exact .head | apply Rem.tail) .nil) (by repeat first | exact .refl | apply Drop.skip))
  ·
    refine w_skip ?_
    refine thn_n ?_
    refine w_seq ?_
    refine w_region ?_
    refine o_val (v_load V.s22 rfl (by repeat first | exact .head _ | apply List.Mem.tail) rfl) rfl ?_
    refine o_val (v_len (ty' := 0) Try.underlying22 rfl) rfl ?_
    refine r_makeN ls.length ls.length (W63) rfl rfl V.sl55 V.z63 rfl rfl rfl rfl (by omega) (by omega) rfl rfl ?_
    intro b16
    refine o_val (v_build V.pl58 V.z58 rfl (cs := [_, _, _, _, _, _, _, _, _, _, _, _, _, _, _, _, _, _, _]) rfl) rfl ?_
    refine o_box rfl (show _ = CA [.slice (some ⟨b16, 0, none⟩) ls.length ls.length] .i64 (HuffP.cntL (ls.take 0)) [.slice none (HuffP.posn (ls.take 0)).length 0, .int .i64 (HuffP.mostL (ls.take 0))] from by rw [List.take_zero, HuffP.cntL_nil, HuffP.posn_nil, HuffP.most_nil]; rfl) rfl ?_
    intro b18
    refine o_val (v_assign rfl) rfl ?_
    refine o_nil ?_
    refine thn_n ?_
    refine w_seq ?_
    refine w_seq ?_
    refine w_region ?_
    refine o_val (v_load V.s22 rfl (by repeat first | exact .head _ | apply List.Mem.tail) rfl) rfl ?_
    refine o_val (v_len (ty' := 0) Try.underlying22 rfl) rfl ?_
    refine o_val (v_move rfl) rfl ?_
    refine o_nil ?_
    refine thn_n ?_
    refine w_block ?_
    refine w_add0 (Row I3 none (HuffP.posn (ls.take 0)).length 0 (HuffP.posn (ls.take 0))) (by rw [List.take_zero, HuffP.posn_nil]; exact Row.nil _ _ _) ?_
    refine w_loop3 (fun (k : Nat) (po : Option Addr) (co : Nat) => [(1, .pointer (some ⟨b1, 0, none⟩)), (4, .pointer (some ⟨b18, 0, none⟩)), (19, .slice p ls.length cap), (20, .int .i64 (ls.length : Int)), (21, .int .i64 (k : Int))]) (fun (k : Nat) (po : Option Addr) (co : Nat) => Cel b18 58 (CA [.slice (some ⟨b16, 0, none⟩) ls.length ls.length] .i64 (HuffP.cntL (ls.take k)) [.slice po (HuffP.posn (ls.take k)).length co, .int .i64 (HuffP.mostL (ls.take k))]) :: Row I3 po (HuffP.posn (ls.take k)).length co (HuffP.posn (ls.take k)) :: Row W63 (some ⟨b16, 0, none⟩) ls.length ls.length (List.replicate ls.length (0, 0)) :: Cel b1 22 [.slice p ls.length cap] :: R :: F) (fun (k : Nat) (po : Option Addr) (co : Nat) => k ≤ ls.length ∧ ∀ i, i < k → 0 ≤ ls.getD i 0 ∧ ls.getD i 0 ≤ 15) (fun (k : Nat) (po : Option Addr) (co : Nat) => ls.length - k) (i3 (0) (none) (0) ?_ (.cons rfl (.cons rfl (.cons rfl (.cons rfl (.cons rfl (.nil _)))))) (sub (.cons (by repeat first | exact .head | apply Rem.tail) (.cons (by repeat first | exact .head | apply Rem.tail) (.cons (by repeat first | exact .head | apply Rem.tail) (.cons (by repeat first | exact .head | apply Rem.tail) (.cons (by repeat first | exact .head | apply Rem.tail) .nil))))) (by repeat first | exact .refl | apply Drop.skip))) ?_
    ·
      exact ⟨by omega, fun i hi => by omega⟩
    intro k po co
    rintro ⟨hk, hok⟩
    refine w_seq ?_
    refine w_region ?_
    refine o_val (v_lss rfl rfl) rfl ?_
    refine o_nil ?_
    refine thn_n ?_
    refine w_seq ?_
    first | refine w_condD rfl (fun h22 => ?_) (fun h22 => ?_) | refine w_cond rfl (fun h22 => ?_) (fun h22 => ?_)
    ·
      refine w_skip ?_
      refine thn_n ?_
      refine w_seq ?_
      refine w_block ?_
      refine w_seq ?_
      refine w_region ?_
      refine o_val (v_move rfl) rfl ?_
      refine o_val (r_index (c := (I3)) V.sl22 rfl rfl (by first | exact own mm0 | exact own mm1 | exact own mm2 | exact own mm3 | exact own mm4 | exact own mm5 | exact own mm6 | exact own mm7 | exact own mm8 | exact own mm9 | exact own mm10 | exact own mm11 | exact rdH hR mm0 | exact rdH hR mm1 | exact rdH hR mm2 | exact rdH hR mm3 | exact rdH hR mm4 | exact rdH hR mm5 | exact rdH hR mm6 | exact rdH hR mm7 | exact rdH hR mm8 | exact rdH hR mm9 | exact rdH hR mm10 | exact rdH hR mm11) (by omega) (by omega)) rfl ?_
      refine o_val (r_load (c := (I3)) V.s3 rfl (by first | exact own mm0 | exact own mm1 | exact own mm2 | exact own mm3 | exact own mm4 | exact own mm5 | exact own mm6 | exact own mm7 | exact own mm8 | exact own mm9 | exact own mm10 | exact own mm11 | exact rdH hR mm0 | exact rdH hR mm1 | exact rdH hR mm2 | exact rdH hR mm3 | exact rdH hR mm4 | exact rdH hR mm5 | exact rdH hR mm6 | exact rdH hR mm7 | exact rdH hR mm8 | exact rdH hR mm9 | exact rdH hR mm10 | exact rdH hR mm11) (by omega) (by omega) rfl rfl) rfl ?_
      refine o_val (v_assign rfl) rfl ?_
      refine o_val (v_assign rfl) rfl ?_
      refine o_nil ?_
      refine thn_n ?_
      refine w_seq ?_
      refine w_seq ?_
      have hk2 : k < ls.length := by omega
      have hg : I3.g ls (k : Int) = ls.getD k 0 := by simp [Ec.g]
      have hg2 : ls.getD k 0 = ls[k] := by simp [hk2]
      have htk : (ls.take k).length = k := by rw [List.length_take]; omega
      have hcl := HuffP.cntL_len (ls.take k)
      have hcb := HuffP.cntL_bound (ls := ls.take k) (by omega) (I3.g ls (k : Int)).toNat
      have hpl2 := HuffP.posn_le (ls.take k)
      refine w_region ?_
      refine o_val (v_move rfl) rfl ?_
      refine o_val (v_lss rfl rfl) rfl ?_
      refine o_val (v_move rfl) rfl ?_
      first | refine o_boolD 28 rfl (fun h28 => ?_) (fun h28 => ?_) | refine o_bool 28 rfl (fun h28 => ?_) (fun h28 => ?_)
      ·
        refine o_pass rfl rfl rfl ?_
        refine o_pass rfl rfl rfl ?_
        refine o_val (v_pickT rfl rfl) rfl ?_
        refine o_nil ?_
        refine thn_n ?_
        refine w_condT rfl ?_
        refine w_seq ?_
        refine w_region ?_
        refine o_val (v_assign rfl) rfl ?_
        refine o_val (v_assign rfl) rfl ?_
        refine o_nil ?_
        refine thn_n ?_
        refine w_ret ?_
        refine (thn_r (blk_r (thn_r (thn_r (blk_r (thn_r ?_))))))
        exact ret_ok (G := [R]) (res2 rfl rfl) (.inr ⟨by rw [HuffP.newE_bad (by omega) hk2 (by omega)]; decide, by rw [HuffP.newE_bad (by omega) hk2 (by omega)], rfl⟩) (sub (.cons (by repeat first | exact .head | apply Rem.tail) .nil) (by repeat first | exact .refl | apply Drop.skip))
      ·
        refine o_want rfl ?_
        refine o_val (v_move rfl) rfl ?_
        refine o_want rfl ?_
        refine o_val (v_gtr rfl rfl) rfl ?_
        refine o_val (v_pickF rfl rfl) rfl ?_
        refine o_nil ?_
        refine thn_n ?_
        first | refine w_condD rfl (fun h31 => ?_) (fun h31 => ?_) | refine w_cond rfl (fun h31 => ?_) (fun h31 => ?_)
        ·
          refine w_seq ?_
          refine w_region ?_
          refine o_val (v_assign rfl) rfl ?_
          refine o_val (v_assign rfl) rfl ?_
          refine o_nil ?_
          refine thn_n ?_
          refine w_ret ?_
          refine (thn_r (blk_r (thn_r (thn_r (blk_r (thn_r ?_))))))
          exact ret_ok (G := [R]) (res2 rfl rfl) (.inr ⟨by rw [HuffP.newE_bad (by omega) hk2 (by omega)]; decide, by rw [HuffP.newE_bad (by omega) hk2 (by omega)], rfl⟩) (sub (.cons (by repeat first | exact .head | apply Rem.tail) .nil) (by repeat first | exact .refl | apply Drop.skip))
        ·
          refine w_skip ?_
          refine thn_n ?_
          refine w_seq ?_
          refine w_region ?_
          refine o_val (v_move rfl) rfl ?_
          refine o_val (v_gtr rfl rfl) rfl ?_
          refine o_nil ?_
          refine thn_n ?_
          first | refine w_condD rfl (fun h33 => ?_) (fun h33 => ?_) | refine w_cond rfl (fun h33 => ?_) (fun h33 => ?_)
          ·
            refine w_seq ?_
            refine w_net [⟨[], [], [4], 0, 0⟩, ⟨[], [], [6], 0, 0⟩, ⟨[0], [0], [], 0, 0⟩, ⟨[0, 2], [2], [], 0, 0⟩, ⟨[0, 1, 2, 3], [3, 1], [], 0, 0⟩, ⟨[0, 1, 2, 3, 4], [4], [], 0, 0⟩, ⟨[0, 1, 2, 3, 4, 5], [5], [], 0, 0⟩, ⟨[0], [0], [], 0, 0⟩, ⟨[0, 7], [7], [], 0, 0⟩, ⟨[0, 1, 2, 3, 4, 5, 6, 7, 8], [8, 1], [], 0, 0⟩, ⟨[0, 1, 2, 3, 4, 5, 6, 7, 8, 9], [9, 6], [], 0, 0⟩] [⟨fun y => Cel b18 58 (CA [.slice (some ⟨b16, 0, none⟩) ls.length ls.length] .i64 (HuffP.cntL (ls.take k)) [.slice po (HuffP.posn (ls.take k)).length co, .int .i64 (HuffP.mostL (ls.take k))]), none, some 10, [5]⟩, ⟨fun y => Row I3 po (HuffP.posn (ls.take k)).length co (HuffP.posn (ls.take k)), none, none, []⟩, ⟨fun y => Row W63 (some ⟨b16, 0, none⟩) ls.length ls.length (List.replicate ls.length (0, 0)), none, none, []⟩, ⟨fun y => Cel b1 22 [.slice p ls.length cap], none, none, []⟩, ⟨fun y => R, none, none, []⟩, ⟨fun y => Cel b18 58 (CA [.slice (some ⟨b16, 0, none⟩) ls.length ls.length] .i64 ((HuffP.cntL (ls.take k)).set (((I3.g ls (k : Int))).toNat) (((HuffP.cntL (ls.take k)).getD (((I3.g ls (k : Int))).toNat) 0) + 1)) [.slice po (HuffP.posn (ls.take k)).length co, .int .i64 (HuffP.mostL (ls.take k))]), some 10, none, []⟩] F V.mixed (by kernel_rfl) rfl (fun _ => .refl _) (locT_0 _ (locT_0 _ (locT_0 _ (locT_0 _ (locT_0 _ (locT_1 [0, 1, 2, 3, 4, 5, 6, 7, 8, 9] rfl (by intro y y2 h; rfl) locT_nil)))))) ?_
            refine net_pure (fun y => [(4, _)]) (fun y => rfl) rfl rfl rfl (fun y hA L => st_v (v_move rfl) ⟨rfl, rfl⟩) (by intros; rfl) (by intro y y2 h; rfl) ?_
            refine net_pure (fun y => [(6, _)]) (fun y => rfl) rfl rfl rfl (fun y hA L => st_v (v_move rfl) ⟨rfl, rfl⟩) (by intros; rfl) (by intro y y2 h; rfl) ?_
            refine net_pure (fun y => [(34, _)]) (fun y => rfl) rfl rfl rfl (fun y hA L => st_v (v_nil rfl) ⟨rfl, rfl⟩) (by intros; rfl) (by intro y y2 h; rfl) ?_
            refine net_pure (fun y => [(36, _)]) (fun y => rfl) rfl rfl rfl (fun y hA L => st_v (v_fieldAddr V.f58_1 rfl) ⟨rfl, rfl⟩) (by intros; rfl) (by intro y y2 h; rfl) ?_
            refine net_pure (fun y => [(37, _), (35, _)]) (fun y => rfl) rfl rfl rfl (fun y hA L => st_v (v_indexA (((I3.g ls (k : Int))).toNat) (by omega) V.ar56 rfl rfl (by omega)) ⟨rfl, rfl⟩) (by intros; rfl) (by intro y y2 h; rfl) ?_
            refine net_read (fun y => [Cel b18 58 (CA [.slice (some ⟨b16, 0, none⟩) ls.length ls.length] .i64 (HuffP.cntL (ls.take k)) [.slice po (HuffP.posn (ls.take k)).length co, .int .i64 (HuffP.mostL (ls.take k))])]) (fun y => [(38, _)]) (fun y => rfl) rfl (fun y => rfl) rfl (fun y FF hA => st_v (a_load (I3.g ls (k : Int)) V.s3 rfl (by repeat first | exact .head _ | apply List.Mem.tail) (by first | (simp only [List.length_cons, List.length_nil]; omega) | omega) (by omega) (by first | omega | (simp only [List.length_set]; omega))) ⟨rfl, rfl⟩) (by intros; rfl) (by intro y y2 h; rfl) ?_
            refine net_pure (fun y => [(39, _)]) (fun y => rfl) rfl rfl rfl (fun y hA L => st_v (v_add rfl rfl (wrapI (by omega) (by omega))) ⟨rfl, rfl⟩) (by intros; rfl) (by intro y y2 h; rfl) ?_
            refine net_pure (fun y => [(34, _)]) (fun y => rfl) rfl rfl rfl (fun y hA L => st_v (v_nil rfl) ⟨rfl, rfl⟩) (by intros; rfl) (by intro y y2 h; rfl) ?_
            refine net_pure (fun y => [(41, _)]) (fun y => rfl) rfl rfl rfl (fun y hA L => st_v (v_fieldAddr V.f58_1 rfl) ⟨rfl, rfl⟩) (by intros; rfl) (by intro y y2 h; rfl) ?_
            refine net_pure (fun y => [(42, _), (35, _)]) (fun y => rfl) rfl rfl rfl (fun y hA L => st_v (v_indexA (((I3.g ls (k : Int))).toNat) (by omega) V.ar56 rfl rfl (by omega)) ⟨rfl, rfl⟩) (by intros; rfl) (by intro y y2 h; rfl) ?_
            refine net_eff (fun y => [Cel b18 58 (CA [.slice (some ⟨b16, 0, none⟩) ls.length ls.length] .i64 (HuffP.cntL (ls.take k)) [.slice po (HuffP.posn (ls.take k)).length co, .int .i64 (HuffP.mostL (ls.take k))])]) (fun y => []) (fun y => [Cel b18 58 (CA [.slice (some ⟨b16, 0, none⟩) ls.length ls.length] .i64 ((HuffP.cntL (ls.take k)).set (((I3.g ls (k : Int))).toNat) (((HuffP.cntL (ls.take k)).getD (((I3.g ls (k : Int))).toNat) 0) + 1)) [.slice po (HuffP.posn (ls.take k)).length co, .int .i64 (HuffP.mostL (ls.take k))])]) (fun y => [(43, _), (40, _)]) (fun y => rfl) (fun y => rfl) (fun y => rfl) (fun y => rfl) (fun y FF hA => st_v (a_store (I3.g ls (k : Int)) V.s3 rfl rfl (by repeat first | exact .head | apply Rep.tail) (by first | (simp only [List.length_cons, List.length_nil]; omega) | omega) (by omega) (by first | omega | (simp only [List.length_set]; omega))) ⟨rfl, .refl _⟩) (by intros; rfl) (by intros; rfl) (by intro y y2 h; rfl) ?_
            refine net_nil ?_
            intro y hA
            clear hA
            refine thn_n ?_
            refine w_keep _ (.cons (d := 1) rfl (.cons (d := 4) rfl (.cons (d := 5) rfl (.cons (d := 6) rfl (.cons (d := 19) rfl (.cons (d := 20) rfl (.cons (d := 21) rfl (.nil _)))))))) ?_
            refine w_sub (M := Row I3 po (HuffP.posn (ls.take k)).length co (HuffP.posn (ls.take k)) :: Row W63 (some ⟨b16, 0, none⟩) ls.length ls.length (List.replicate ls.length (0, 0)) :: Cel b1 22 [.slice p ls.length cap] :: R :: Cel b18 58 (CA [.slice (some ⟨b16, 0, none⟩) ls.length ls.length] .i64 ((HuffP.cntL (ls.take k)).set (((I3.g ls (k : Int))).toNat) (((HuffP.cntL (ls.take k)).getD (((I3.g ls (k : Int))).toNat) 0) + 1)) [.slice po (HuffP.posn (ls.take k)).length co, .int .i64 (HuffP.mostL (ls.take k))]) :: F) (fun _ _ h => h) ?_
            refine w_seq ?_
            refine w_region ?_
            refine o_val (v_move rfl) rfl ?_
            refine o_val (v_move rfl) rfl ?_
            refine o_val (v_nil rfl) rfl ?_
            refine o_val (v_fieldAddr V.f58_2 rfl) rfl ?_
            refine o_val (a_loadP (n := 16) 0 V.s22 rfl (by repeat first | exact .head _ | apply List.Mem.tail) (by first | omega | (simp only [List.length_set]; omega)) rfl rfl) rfl ?_
            refine o_val (v_move rfl) rfl ?_
            refine r_build (I3) [(k : Int)] V.sl22 V.z3 rfl rfl rfl rfl rfl rfl ?_
            intro b50
            refine r_append (c := (I3)) V.sl22 V.z3 rfl rfl rfl rfl (by repeat first | exact .head | apply Rem.tail) (by first | exact own mm0 | exact own mm1 | exact own mm2 | exact own mm3 | exact own mm4 | exact own mm5 | exact own mm6 | exact own mm7 | exact own mm8 | exact own mm9 | exact own mm10 | exact own mm11 | exact rdH hR mm0 | exact rdH hR mm1 | exact rdH hR mm2 | exact rdH hR mm3 | exact rdH hR mm4 | exact rdH hR mm5 | exact rdH hR mm6 | exact rdH hR mm7 | exact rdH hR mm8 | exact rdH hR mm9 | exact rdH hR mm10 | exact rdH hR mm11) (by omega) rfl ?_
            intro p51 c51
            refine o_val (v_nil rfl) rfl ?_
            refine o_val (v_fieldAddr V.f58_2 rfl) rfl ?_
            refine o_eff (a_storeP (n := 16) 0 V.s22 rfl rfl rfl (by repeat first | exact .head | apply Rep.tail) (by first | omega | (simp only [List.length_set]; omega)) rfl (by exact Nat.le_of_ble_eq_true rfl) rfl) ?_
            refine o_nil ?_
            refine thn_n ?_
            refine w_region ?_
            refine o_val (v_move rfl) rfl ?_
            refine o_val (v_move rfl) rfl ?_
            refine o_val (v_nil rfl) rfl ?_
            refine o_val (v_fieldAddr V.f58_3 rfl) rfl ?_
            refine o_val (a_loadP (n := 16) 1 V.s3 rfl (by repeat first | exact .head _ | apply List.Mem.tail) (by first | omega | (simp only [List.length_set]; omega)) rfl rfl) rfl ?_
            refine o_val (v_move rfl) rfl ?_
            refine o_val (v_max rfl rfl) rfl ?_
            refine o_val (v_nil rfl) rfl ?_
            refine o_val (v_fieldAddr V.f58_3 rfl) rfl ?_
            refine o_eff (a_storeP (n := 16) 1 V.s3 rfl rfl rfl (by repeat first | exact .head | apply Rep.tail) (by first | omega | (simp only [List.length_set]; omega)) rfl (by exact Nat.le_of_ble_eq_true rfl) rfl) ?_
            refine o_nil ?_
            refine blk_n ?_
            refine thn_n ?_
            refine w_region ?_
            refine o_val (v_add rfl rfl (wrapI (by omega) (by omega))) rfl ?_
            refine o_val (v_move rfl) rfl ?_
            refine o_nil ?_
            have hok2 := HuffP.ok_snoc hok (by omega)
            first
            | (obtain ⟨e1, e2, e3⟩ := HuffP.step_zero hk2 (hg.trans hg2) (by omega); rw [← e1, ← e2, ← e3]; exact j3 (k + 1) _ _ ⟨⟨by omega, hok2⟩, by omega⟩ (.cons rfl (.cons rfl (.cons rfl (.cons rfl (.cons rfl (.nil _)))))) (sub (.cons (by repeat first | exact .head | apply Rem.tail) (.cons (by repeat first | exact .head | apply Rem.tail) (.cons (by repeat first | exact .head | apply Rem.tail) (.cons (by repeat first | exact .head | apply Rem.tail) (.cons (by repeat first | exact .head | apply Rem.tail) .nil))))) (by repeat first | exact .refl | apply Drop.skip)))
            | (obtain ⟨e1, e2, e3, e4⟩ := HuffP.step_pos hk2 (hg.trans hg2) (by omega) (by omega); rw [e1, e2, e3, e4]; exact j3 (k + 1) _ _ ⟨⟨by omega, hok2⟩, by omega⟩ (.cons rfl (.cons rfl (.cons rfl (.cons rfl (.cons rfl (.nil _)))))) (sub (.cons (by repeat first | exact .head | apply Rem.tail) (.cons (by repeat first | exact .head | apply Rem.tail) (.cons (by repeat first | exact .head | apply Rem.tail) (.cons (by repeat first | exact .head | apply Rem.tail) (.cons (by repeat first | exact .head | apply Rem.tail) .nil))))) (by repeat first | exact .refl | apply Drop.skip)))
          ·
            refine w_skip ?_
            refine blk_n ?_
            refine thn_n ?_
            refine w_region ?_
            refine o_val (v_add rfl rfl (wrapI (by omega) (by omega))) rfl ?_
            refine o_val (v_move rfl) rfl ?_
            refine o_nil ?_
            have hok2 := HuffP.ok_snoc hok (by omega)
            first
            | (obtain ⟨e1, e2, e3⟩ := HuffP.step_zero hk2 (hg.trans hg2) (by omega); rw [← e1, ← e2, ← e3]; exact j3 (k + 1) _ _ ⟨⟨by omega, hok2⟩, by omega⟩ (.cons rfl (.cons rfl (.cons rfl (.cons rfl (.cons rfl (.nil _)))))) (sub (.cons (by repeat first | exact .head | apply Rem.tail) (.cons (by repeat first | exact .head | apply Rem.tail) (.cons (by repeat first | exact .head | apply Rem.tail) (.cons (by repeat first | exact .head | apply Rem.tail) (.cons (by repeat first | exact .head | apply Rem.tail) .nil))))) (by repeat first | exact .refl | apply Drop.skip)))
            | (obtain ⟨e1, e2, e3, e4⟩ := HuffP.step_pos hk2 (hg.trans hg2) (by omega) (by omega); rw [e1, e2, e3, e4]; exact j3 (k + 1) _ _ ⟨⟨by omega, hok2⟩, by omega⟩ (.cons rfl (.cons rfl (.cons rfl (.cons rfl (.cons rfl (.nil _)))))) (sub (.cons (by repeat first | exact .head | apply Rem.tail) (.cons (by repeat first | exact .head | apply Rem.tail) (.cons (by repeat first | exact .head | apply Rem.tail) (.cons (by repeat first | exact .head | apply Rem.tail) (.cons (by repeat first | exact .head | apply Rem.tail) .nil))))) (by repeat first | exact .refl | apply Drop.skip)))
    ·
      refine w_exit ?_
      refine thn_e ?_
      refine thn_e ?_
      refine blk_x ?_
      refine thn_n ?_
      refine w_seq ?_
      refine w_seq ?_
      have hkn : k = ls.length := by omega
      subst hkn
      rw [List.take_length] at *
      have hvv := HuffP.ok_take hok (Nat.le_refl _)
      have hcl := HuffP.cntL_len ls
      have hE0 := HuffP.newE_ok (by omega) hvv
      refine w_net [⟨[], [], [4], 0, 0⟩, ⟨[0], [0], [], 0, 0⟩, ⟨[0, 1], [1], [], 0, 0⟩, ⟨[0, 1, 2], [2], [], 0, 0⟩, ⟨[], [], [4], 0, 0⟩, ⟨[4], [4], [], 0, 0⟩, ⟨[4, 5], [5], [], 0, 0⟩, ⟨[4, 5, 6], [6], [], 0, 0⟩, ⟨[4, 5, 6, 7], [7], [], 0, 0⟩, ⟨[0, 1, 2, 3, 4, 5, 6, 7, 8], [3, 8], [], 0, 0⟩, ⟨[0, 1, 2, 3, 4, 5, 6, 7, 8, 9], [9], [], 0, 0⟩] [⟨fun y => Cel b18 58 (CA [.slice (some ⟨b16, 0, none⟩) ls.length ls.length] .i64 (HuffP.cntL ls) [.slice po (HuffP.posn ls).length co, .int .i64 (HuffP.mostL ls)]), none, none, [3, 7]⟩, ⟨fun y => Row I3 po (HuffP.posn ls).length co (HuffP.posn ls), none, none, []⟩, ⟨fun y => Row W63 (some ⟨b16, 0, none⟩) ls.length ls.length (List.replicate ls.length (0, 0)), none, none, []⟩, ⟨fun y => Cel b1 22 [.slice p ls.length cap], none, none, []⟩, ⟨fun y => R, none, none, []⟩] F V.mixed (by kernel_rfl) rfl (fun _ => .refl _) (locT_0 _ (locT_0 _ (locT_0 _ (locT_0 _ (locT_0 _ locT_nil))))) ?_
      refine net_pure (fun y => [(4, _)]) (fun y => rfl) rfl rfl rfl (fun y hA L => st_v (v_move rfl) ⟨rfl, rfl⟩) (by intros; rfl) (by intro y y2 h; rfl) ?_
      refine net_pure (fun y => [(64, _)]) (fun y => rfl) rfl rfl rfl (fun y hA L => st_v (v_nil rfl) ⟨rfl, rfl⟩) (by intros; rfl) (by intro y y2 h; rfl) ?_
      refine net_pure (fun y => [(65, _)]) (fun y => rfl) rfl rfl rfl (fun y hA L => st_v (v_fieldAddr V.f58_1 rfl) ⟨rfl, rfl⟩) (by intros; rfl) (by intro y y2 h; rfl) ?_
      refine net_read (fun y => [Cel b18 58 (CA [.slice (some ⟨b16, 0, none⟩) ls.length ls.length] .i64 (HuffP.cntL ls) [.slice po (HuffP.posn ls).length co, .int .i64 (HuffP.mostL ls)])]) (fun y => [(66, _)]) (fun y => rfl) rfl (fun y => rfl) rfl (fun y FF hA => st_v (a_loadAll V.a56 rfl (by repeat first | exact .head _ | apply List.Mem.tail) (by first | omega | (simp only [List.length_set]; omega)) rfl) ⟨rfl, rfl⟩) (by intros; rfl) (by intro y y2 h; rfl) ?_
      refine net_pure (fun y => [(4, _)]) (fun y => rfl) rfl rfl rfl (fun y hA L => st_v (v_move rfl) ⟨rfl, rfl⟩) (by intros; rfl) (by intro y y2 h; rfl) ?_
      refine net_pure (fun y => [(68, _)]) (fun y => rfl) rfl rfl rfl (fun y hA L => st_v (v_nil rfl) ⟨rfl, rfl⟩) (by intros; rfl) (by intro y y2 h; rfl) ?_
      refine net_pure (fun y => [(69, _)]) (fun y => rfl) rfl rfl rfl (fun y hA L => st_v (v_fieldAddr V.f58_2 rfl) ⟨rfl, rfl⟩) (by intros; rfl) (by intro y y2 h; rfl) ?_
      refine net_read (fun y => [Cel b18 58 (CA [.slice (some ⟨b16, 0, none⟩) ls.length ls.length] .i64 (HuffP.cntL ls) [.slice po (HuffP.posn ls).length co, .int .i64 (HuffP.mostL ls)])]) (fun y => [(70, _)]) (fun y => rfl) rfl (fun y => rfl) rfl (fun y FF hA => st_v (a_loadP (n := 16) 0 V.s22 rfl (by repeat first | exact .head _ | apply List.Mem.tail) (by first | omega | (simp only [List.length_set]; omega)) rfl rfl) ⟨rfl, rfl⟩) (by intros; rfl) (by intro y y2 h; rfl) ?_
      refine net_pure (fun y => [(71, _)]) (fun y => rfl) rfl rfl rfl (fun y hA L => st_v (v_len (ty' := 0) Try.underlying22 rfl) ⟨rfl, rfl⟩) (by intros; rfl) (by intro y y2 h; rfl) ?_
      refine net_eff (fun y => []) (fun y => []) (fun y => []) (fun y => [(67, _), (72, _)]) (fun y => rfl) (fun y => rfl) (fun y => rfl) (fun y => rfl) (fun y FF hA => st_callN (Post := []) (c_whole (HuffP.cntL ls) _ (HuffP.cntL_len _) (HuffP.cntL_bound (by omega))) V.b28 rfl .nil (fun v G h => by rcases h with ⟨rfl, rfl⟩; exact ⟨rfl, .refl _⟩)) (by intros; rfl) (by intros; rfl) (by intro y y2 h; rfl) ?_
      refine net_pure (fun y => [(73, _)]) (fun y => rfl) rfl rfl rfl (fun y hA L => st_v (v_not rfl) ⟨rfl, rfl⟩) (by intros; rfl) (by intro y y2 h; rfl) ?_
      refine net_nil ?_
      intro y hA
      clear hA
      refine thn_n ?_
      refine w_keep _ (.cons (d := 1) rfl (.cons (d := 4) rfl (.cons (d := 74) rfl (.nil _)))) ?_
      refine w_sub (M := Cel b18 58 (CA [.slice (some ⟨b16, 0, none⟩) ls.length ls.length] .i64 (HuffP.cntL ls) [.slice po (HuffP.posn ls).length co, .int .i64 (HuffP.mostL ls)]) :: Row I3 po (HuffP.posn ls).length co (HuffP.posn ls) :: Row W63 (some ⟨b16, 0, none⟩) ls.length ls.length (List.replicate ls.length (0, 0)) :: Cel b1 22 [.slice p ls.length cap] :: R :: F) (fun _ _ h => h) ?_
      first | refine w_condD rfl (fun h74 => ?_) (fun h74 => ?_) | refine w_cond rfl (fun h74 => ?_) (fun h74 => ?_)
      ·
        refine w_seq ?_
        have hE : HuffP.newE ls = 4 := by rw [hE0, if_neg (by simpa using h74)]
        refine w_region ?_
        refine o_val (v_assign rfl) rfl ?_
        refine o_val (v_assign rfl) rfl ?_
        refine o_nil ?_
        refine thn_n ?_
        refine w_ret ?_
        refine (thn_r ?_)
        exact ret_ok (G := [R]) (res2 rfl rfl) (.inr ⟨by rw [hE]; decide, by rw [hE], rfl⟩) (sub (.cons (by repeat first | exact .head | apply Rem.tail) .nil) (by repeat first | exact .refl | apply Drop.skip))
      ·
        refine w_skip ?_
        refine thn_n ?_
        refine w_seq ?_
        have hE : HuffP.newE ls = 0 := by rw [hE0, if_pos (by simpa using h74)]
        have hV := (HuffP.newE_vl hE).1
        have hW := (HuffP.newE_vl hE).2
        have hpl := HuffP.posn_len hV
        have hpn := HuffP.posn_le ls
        refine w_star (A := [Cel b1 22 [.slice p ls.length cap], R]) (.cons (by repeat first | exact .head | apply Rem.tail) (.cons (by repeat first | exact .head | apply Rem.tail) .nil)) ?_
        refine w_region ?_
        refine o_val (v_move rfl) rfl ?_
        refine o_val (v_nil rfl) rfl ?_
        refine o_val (v_fieldAddr V.f58_2 rfl) rfl ?_
        refine o_val (a_loadP (n := 16) 0 V.s22 rfl (by repeat first | exact .head _ | apply List.Mem.tail) (by first | omega | (simp only [List.length_set]; omega)) rfl rfl) rfl ?_
        refine o_val (v_fn (fs := []) (cs := [_]) rfl rfl) rfl ?_
        refine o_call (st_sort po (HuffP.posn ls).length co 30 [] [.pointer (some ⟨b1, 0, none⟩)] (Star [Cel b1 22 [.slice p ls.length cap], R]) (HuffP.key ls) (fun x => 0 ≤ x ∧ x < ls.length) V.b30 (fun x y hx hy => (c_less p ls.length cap ls R hR b1 x y hx hy).star) (HuffP.posn ls) (by omega) (HuffP.posn_at ls)) V.b29  rfl (.cons (by repeat first | exact .head | apply Rem.tail) (.cons (by repeat first | exact .head | apply Rem.tail) .nil)) rfl ?_
        rintro _ _ ⟨rfl, l2, hR2, hS2, rfl⟩
        obtain rfl := HuffP.sort_ord hvv hR2 hS2
        refine o_nil ?_
        refine thn_n ?_
        refine w_seq ?_
        refine w_unstar rr1 ?_
        rw [hpl]
        refine w_region ?_
        refine o_val (v_assign rfl) rfl ?_
        refine o_val (v_assign rfl) rfl ?_
        refine o_nil ?_
        refine thn_n ?_
        refine w_seq ?_
        refine w_seq ?_
        refine w_region ?_
        refine o_val (v_move rfl) rfl ?_
        refine o_val (v_nil rfl) rfl ?_
        refine o_val (v_fieldAddr V.f58_2 rfl) rfl ?_
        refine o_val (a_loadP (n := 16) 0 V.s22 rfl (by repeat first | exact .head _ | apply List.Mem.tail) (by first | omega | (simp only [List.length_set]; omega)) rfl rfl) rfl ?_
        refine o_val (v_len (ty' := 0) Try.underlying22 rfl) rfl ?_
        refine o_val (v_move rfl) rfl ?_
        refine o_nil ?_
        refine thn_n ?_
        refine w_block ?_
        rw [← HuffP.wordsK_zero]
        refine w_loop1 (fun (k : Nat) => [(1, .pointer (some ⟨b1, 0, none⟩)), (4, .pointer (some ⟨b18, 0, none⟩)), (7, .int .i64 (HuffP.nxt ls k)), (8, .int .i64 (HuffP.pln ls k)), (84, .slice po (HuffP.ord ls).length co), (85, .int .i64 ((HuffP.ord ls).length : Int)), (86, .int .i64 (k : Int))]) (fun (k : Nat) => Cel b18 58 (CA [.slice (some ⟨b16, 0, none⟩) ls.length ls.length] .i64 (HuffP.cntL ls) [.slice po (HuffP.ord ls).length co, .int .i64 (HuffP.mostL ls)]) :: Row I3 po (HuffP.ord ls).length co (HuffP.ord ls) :: Row W63 (some ⟨b16, 0, none⟩) ls.length ls.length (HuffP.wordsK ls k) :: Cel b1 22 [.slice p ls.length cap] :: R :: F) (fun (k : Nat) => k ≤ (HuffP.ord ls).length) (fun (k : Nat) => (HuffP.ord ls).length - k) (i1 (0) ?_ (.cons rfl (.cons rfl (.cons rfl (.cons rfl (.cons rfl (.cons rfl (.cons rfl (.nil _)))))))) (sub (.cons (by repeat first | exact .head | apply Rem.tail) (.cons (by repeat first | exact .head | apply Rem.tail) (.cons (by repeat first | exact .head | apply Rem.tail) (.cons (by repeat first | exact .head | apply Rem.tail) (.cons (by repeat first | exact .head | apply Rem.tail) .nil))))) (by repeat first | exact .refl | apply Drop.skip))) ?_
        ·
          exact Nat.zero_le _
        intro k
        rintro hk
        refine w_seq ?_
        refine w_region ?_
        refine o_val (v_lss rfl rfl) rfl ?_
        refine o_nil ?_
        refine thn_n ?_
        refine w_seq ?_
        first | refine w_condD rfl (fun h87 => ?_) (fun h87 => ?_) | refine w_cond rfl (fun h87 => ?_) (fun h87 => ?_)
        ·
          refine w_skip ?_
          refine thn_n ?_
          refine w_seq ?_
          refine w_block ?_
          refine w_seq ?_
          have hk2 : k < (HuffP.ord ls).length := by omega
          obtain ⟨s, hs⟩ := HuffP.at_k hW hk2
          have hgs : I3.g (HuffP.ord ls) (k : Int) = (s : Int) := by rw [← hs.sym]; simp [Ec.g]
          have hsl := hs.lt
          refine w_region ?_
          refine o_val (r_index (c := (I3)) V.sl22 rfl rfl (by first | exact own mm0 | exact own mm1 | exact own mm2 | exact own mm3 | exact own mm4 | exact own mm5 | exact own mm6 | exact own mm7 | exact own mm8 | exact own mm9 | exact own mm10 | exact own mm11 | exact rdH hR mm0 | exact rdH hR mm1 | exact rdH hR mm2 | exact rdH hR mm3 | exact rdH hR mm4 | exact rdH hR mm5 | exact rdH hR mm6 | exact rdH hR mm7 | exact rdH hR mm8 | exact rdH hR mm9 | exact rdH hR mm10 | exact rdH hR mm11) (by omega) (by omega)) rfl ?_
          refine o_val (r_load (c := (I3)) V.s3 rfl (by first | exact own mm0 | exact own mm1 | exact own mm2 | exact own mm3 | exact own mm4 | exact own mm5 | exact own mm6 | exact own mm7 | exact own mm8 | exact own mm9 | exact own mm10 | exact own mm11 | exact rdH hR mm0 | exact rdH hR mm1 | exact rdH hR mm2 | exact rdH hR mm3 | exact rdH hR mm4 | exact rdH hR mm5 | exact rdH hR mm6 | exact rdH hR mm7 | exact rdH hR mm8 | exact rdH hR mm9 | exact rdH hR mm10 | exact rdH hR mm11) (by omega) (by omega) rfl rfl) rfl ?_
          refine o_val (v_assign rfl) rfl ?_
          refine o_nil ?_
          refine thn_n ?_
          refine w_seq ?_
          rw [hgs]
          have hls : I3.g ls (s : Int) = (HuffP.lenOf ls s : Int) := by rw [← hs.len]; simp [Ec.g]
          have hs1 := hs.top
          have hs2 := hs.nn
          have hs3 := hs.ge
          have hs4 := hs.w0
          have hs5 : HuffP.wordOf ls s < 32768 := by have := HuffP.pow_15 hs.top; have := hs.w1; omega
          refine w_region ?_
          refine o_val (v_move rfl) rfl ?_
          refine o_val (v_load V.s22 rfl (by repeat first | exact .head _ | apply List.Mem.tail) rfl) rfl ?_
          refine o_val (v_move rfl) rfl ?_
          refine o_val (r_index (c := (I3)) V.sl22 rfl rfl (by first | exact own mm0 | exact own mm1 | exact own mm2 | exact own mm3 | exact own mm4 | exact own mm5 | exact own mm6 | exact own mm7 | exact own mm8 | exact own mm9 | exact own mm10 | exact own mm11 | exact rdH hR mm0 | exact rdH hR mm1 | exact rdH hR mm2 | exact rdH hR mm3 | exact rdH hR mm4 | exact rdH hR mm5 | exact rdH hR mm6 | exact rdH hR mm7 | exact rdH hR mm8 | exact rdH hR mm9 | exact rdH hR mm10 | exact rdH hR mm11) (by omega) (by omega)) rfl ?_
          refine o_val (r_load (c := (I3)) V.s3 rfl (by first | exact own mm0 | exact own mm1 | exact own mm2 | exact own mm3 | exact own mm4 | exact own mm5 | exact own mm6 | exact own mm7 | exact own mm8 | exact own mm9 | exact own mm10 | exact own mm11 | exact rdH hR mm0 | exact rdH hR mm1 | exact rdH hR mm2 | exact rdH hR mm3 | exact rdH hR mm4 | exact rdH hR mm5 | exact rdH hR mm6 | exact rdH hR mm7 | exact rdH hR mm8 | exact rdH hR mm9 | exact rdH hR mm10 | exact rdH hR mm11) (by omega) (by omega) rfl rfl) rfl ?_
          refine o_val (v_move rfl) rfl ?_
          refine o_val (v_sub rfl rfl (wrapI (by omega) (by omega))) rfl ?_
          refine o_val (v_shl (r := HuffP.wordOf ls s) rfl rfl (by omega) (shl_word hs hls)) rfl ?_
          refine o_val (v_assign rfl) rfl ?_
          refine o_nil ?_
          refine thn_n ?_
          refine w_seq ?_
          refine w_region ?_
          refine o_val (v_load V.s22 rfl (by repeat first | exact .head _ | apply List.Mem.tail) rfl) rfl ?_
          refine o_val (v_move rfl) rfl ?_
          refine o_val (r_index (c := (I3)) V.sl22 rfl rfl (by first | exact own mm0 | exact own mm1 | exact own mm2 | exact own mm3 | exact own mm4 | exact own mm5 | exact own mm6 | exact own mm7 | exact own mm8 | exact own mm9 | exact own mm10 | exact own mm11 | exact rdH hR mm0 | exact rdH hR mm1 | exact rdH hR mm2 | exact rdH hR mm3 | exact rdH hR mm4 | exact rdH hR mm5 | exact rdH hR mm6 | exact rdH hR mm7 | exact rdH hR mm8 | exact rdH hR mm9 | exact rdH hR mm10 | exact rdH hR mm11) (by omega) (by omega)) rfl ?_
          refine o_val (r_load (c := (I3)) V.s3 rfl (by first | exact own mm0 | exact own mm1 | exact own mm2 | exact own mm3 | exact own mm4 | exact own mm5 | exact own mm6 | exact own mm7 | exact own mm8 | exact own mm9 | exact own mm10 | exact own mm11 | exact rdH hR mm0 | exact rdH hR mm1 | exact rdH hR mm2 | exact rdH hR mm3 | exact rdH hR mm4 | exact rdH hR mm5 | exact rdH hR mm6 | exact rdH hR mm7 | exact rdH hR mm8 | exact rdH hR mm9 | exact rdH hR mm10 | exact rdH hR mm11) (by omega) (by omega) rfl rfl) rfl ?_
          refine o_val (v_assign rfl) rfl ?_
          refine o_nil ?_
          refine thn_n ?_
          refine w_seq ?_
          rw [hls]
          refine w_region ?_
          refine o_val (v_move rfl) rfl ?_
          refine o_val (v_nil rfl) rfl ?_
          refine o_val (v_fieldAddr V.f58_0 rfl) rfl ?_
          refine o_val (v_load V.s55 rfl (by repeat first | exact .head _ | apply List.Mem.tail) rfl) rfl ?_
          refine o_val (v_move rfl) rfl ?_
          refine o_val (v_move rfl) rfl ?_
          refine o_val (v_move rfl) rfl ?_
          refine o_val (v_build V.pl63 V.z63 rfl (cs := [_, _]) rfl) rfl ?_
          refine o_val (r_index (c := (W63)) V.sl55 rfl rfl (by first | exact own mm0 | exact own mm1 | exact own mm2 | exact own mm3 | exact own mm4 | exact own mm5 | exact own mm6 | exact own mm7 | exact own mm8 | exact own mm9 | exact own mm10 | exact own mm11 | exact rdH hR mm0 | exact rdH hR mm1 | exact rdH hR mm2 | exact rdH hR mm3 | exact rdH hR mm4 | exact rdH hR mm5 | exact rdH hR mm6 | exact rdH hR mm7 | exact rdH hR mm8 | exact rdH hR mm9 | exact rdH hR mm10 | exact rdH hR mm11) (by omega) (by omega)) rfl ?_
          refine o_eff (r_storeA (c := (W63)) ((HuffP.wordOf ls s, (HuffP.lenOf ls s : Int))) V.a63 rfl rfl (by repeat first | exact .head | apply Rep.tail) (by omega) (by omega) rfl) ?_
          refine o_nil ?_
          refine thn_n ?_
          refine w_region ?_
          refine o_val (v_move rfl) rfl ?_
          refine o_val (v_add rfl rfl (wrapI (by omega) (by omega))) rfl ?_
          refine o_val (v_assign rfl) rfl ?_
          refine o_nil ?_
          refine blk_n ?_
          refine thn_n ?_
          refine w_region ?_
          refine o_val (v_add rfl rfl (wrapI (by omega) (by omega))) rfl ?_
          refine o_val (v_move rfl) rfl ?_
          refine o_nil ?_
          have en : HuffP.wordOf ls s + 1 = HuffP.nxt ls (k + 1) := by simp only [HuffP.nxt]; rw [hs.sym]; simp
          have el : (HuffP.lenOf ls s : Int) = HuffP.pln ls (k + 1) := by simp only [HuffP.pln]; rw [hs.sym]; simp
          rw [Int.toNat_natCast, ← HuffP.wordsK_next hk2 hs, en, el]
          refine j1 (k + 1) ?_ (.cons rfl (.cons rfl (.cons rfl (.cons rfl (.cons rfl (.cons rfl (.cons rfl (.nil _)))))))) (sub (.cons (by repeat first | exact .head | apply Rem.tail) (.cons (by repeat first | exact .head | apply Rem.tail) (.cons (by repeat first | exact .head | apply Rem.tail) (.cons (by repeat first | exact .head | apply Rem.tail) (.cons (by repeat first | exact .head | apply Rem.tail) .nil))))) (by repeat first | exact .refl | apply Drop.skip))
          exact ⟨by omega, by omega⟩
        ·
          refine w_exit ?_
          refine thn_e ?_
          refine thn_e ?_
          refine blk_x ?_
          refine thn_n ?_
          refine w_seq ?_
          refine w_region ?_
          refine o_val (v_move rfl) rfl ?_
          refine o_val (v_assign rfl) rfl ?_
          refine o_val (v_assign rfl) rfl ?_
          refine o_nil ?_
          refine thn_n ?_
          refine w_ret ?_
          exact ret_ok (G := [HC b18 ls, R]) (res2 rfl rfl) (.inl ⟨hE, b18, rfl, rfl⟩) ((fold' (.cons (by repeat first | exact .head | apply Rem.tail) (.cons (by repeat first | exact .head | apply Rem.tail) (.cons (by repeat first | exact .head | apply Rem.tail) .nil))) (by repeat first | exact .refl | apply Drop.skip) (fun w0 h hh => hc_close (HuffP.wordsK_all hV (by omega)) hh)).trans (sub (.cons (by repeat first | exact .head | apply Rem.tail) (.cons (by repeat first | exact .head | apply Rem.tail) .nil)) (by repeat first | exact .refl | apply Drop.skip)))
end Go.Proofs.Ytmclopghpnndnaa

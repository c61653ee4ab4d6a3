/-
 Steps of the proof: walks of functions that the statement reaches; printed by a program of ours.
-/
import Derived.Test.YtoplcgkafaoafaaM48
import Derived.Test.YtoplcgkafaoafaaM49
import Derived.Test.YtoplcgkafaoafaaInfBase6
import Derived.Test.YtoplcgkafaoafaaSl13
namespace Go.Proofs.Ytoplcgkafaoafaa
open Go.Sl 
set_option linter.unusedVariables false
set_option linter.unusedSimpArgs false

attribute [local irreducible] HuffP.newE HuffP.tk HuffP.ord HuffP.cntL HuffP.words HuffP.mostL InfP.frs InfP.toldC InfP.toldN InfP.toldA InfP.hL InfP.hD InfP.hC InfP.lnGo InfP.told InfP.fixL InfP.codeE InfP.rep InfP.lenE InfP.awayE InfP.sym InfP.alg BitP.numL InfP.coded InfP.begin_ InfP.one InfP.put_ InfP.lnB InfP.dsB InfP.lnM InfP.dsM InfP.blks

set_option maxHeartbeats 8000000 in
set_option maxRecDepth 100000 in
theorem l_stored (pl : Option Addr) (cl : Nat) (Ls : List (Td.Ty (.sl 5 (.int .u8)))) (less : Int) (hle : 0 ≤ less ∧ less < 256) : Ctr Try.prog 5 [.slice pl Ls.length cl, .int .u8 less] [Deep 22 (.sl 5 (.int .u8)) pl Ls.length Ls] (Ret fun v G => v = .bool true ∧ G = [Deep 22 (.sl 5 (.int .u8)) pl Ls.length Ls]) := by
 refine spec_of [(0, _), (1, _)] Try.func5 rfl Try.ntmps5 rfl rfl ?_
 intro w0 F
 have hLL : (Ls.map (fun x => x.l)).length = Ls.length := List.length_map ..
 refine w_seq ?_
 refine w_region ?_
 refine o_val (v_assign rfl) rfl ?_
 refine o_nil ?_
 refine thn_n ?_
 refine w_seq ?_
 refine w_seq ?_
 refine w_region ?_
 refine o_call (l_awake) V.b10  rfl .nil rfl ?_
 rintro _ _ ⟨rfl, rfl⟩
 refine o_val (v_to (v := .bool false) (v_not rfl) rfl) rfl ?_
 refine o_nil ?_
 refine thn_n ?_
 refine w_condF rfl ?_
 refine w_skip ?_
 refine thn_n ?_
 rcases (InfP.or3 (Ls.length ≤ 20) (0 < Ls.length)) with ⟨hl1, hl2⟩ | ⟨hl1, hl2⟩ | hl1
 ·
  refine w_seq ?_
  refine w_seq ?_
  refine w_region ?_
  refine o_val (v_move rfl) rfl ?_
  refine o_val (v_len (ty' := 0) Try.underlying38 rfl) rfl ?_
  refine o_val (v_F (v_gtr rfl rfl) (by omega)) rfl ?_
  refine o_val (v_move rfl) rfl ?_
  refine o_want rfl ?_
  refine o_val (v_move rfl) rfl ?_
  refine o_want rfl ?_
  refine o_val (v_len (ty' := 0) Try.underlying38 rfl) rfl ?_
  refine o_want rfl ?_
  refine o_val (v_F (v_eql rfl rfl) (by omega)) rfl ?_
  refine o_val (v_pickF rfl rfl) rfl ?_
  refine o_nil ?_
  refine thn_n ?_
  refine w_condF rfl ?_
  refine w_skip ?_
  refine thn_n ?_
  refine w_seq ?_
  refine w_region ?_
  refine o_val (v_assign rfl) rfl ?_
  refine o_val (v_assign rfl) rfl ?_
  refine o_nil ?_
  refine thn_n ?_
  refine w_seq ?_
  refine w_seq ?_
  refine w_region ?_
  refine o_val (v_assign rfl) rfl ?_
  refine o_nil ?_
  refine thn_n ?_
  refine w_block ?_
  refine w_add0 (Row U5 none 0 0 (InfP.blkI (Ls.map (fun x => x.l)) 0)) (Row.nil _ _ _) ?_
  refine w_add0 (Row U5 none 0 0 (((Ls.map (fun x => x.l)).take 0).flatten)) (Row.nil _ _ _) ?_
  refine w_loop5 (fun (i : Nat) (pb : Option Addr) (cb : Nat) (pw : Option Addr) (cw : Nat) => [(0, .slice pl Ls.length cl), (1, .int .u8 less), (5, .slice pb (InfP.blkI (Ls.map (fun x => x.l)) i).length cb), (6, .slice pw (((Ls.map (fun x => x.l)).take i).flatten).length cw), (7, .int .i64 (i : Int))]) (fun (i : Nat) (pb : Option Addr) (cb : Nat) (pw : Option Addr) (cw : Nat) => Row U5 pb (InfP.blkI (Ls.map (fun x => x.l)) i).length cb (InfP.blkI (Ls.map (fun x => x.l)) i) :: Row U5 pw (((Ls.map (fun x => x.l)).take i).flatten).length cw (((Ls.map (fun x => x.l)).take i).flatten) :: Deep 22 (.sl 5 (.int .u8)) pl Ls.length Ls :: F) (fun (i : Nat) (pb : Option Addr) (cb : Nat) (pw : Option Addr) (cw : Nat) => InfP.Bk (Ls.map (fun x => x.l)) i) (fun (i : Nat) (pb : Option Addr) (cb : Nat) (pw : Option Addr) (cw : Nat) => Ls.length - i) (i5 (0) (none) (0) (none) (0) ?_ (.cons rfl (.cons rfl (.cons rfl (.cons rfl (.cons rfl (.nil _)))))) (sub (.cons (by repeat first | exact .head | apply Rem.tail) (.cons (by repeat first | exact .head | apply Rem.tail) (.cons (by repeat first | exact .head | apply Rem.tail) .nil))) (by repeat first | exact .refl | apply Drop.skip))) ?_
  ·
   exact InfP.Bk.zero _
  intro i pb cb pw cw
  rintro hbk
  have hile := hbk.le
  refine w_seq ?_
  refine w_seq ?_
  refine w_region ?_
  refine o_val (v_move rfl) rfl ?_
  refine o_val (v_move rfl) rfl ?_
  refine o_val (v_len (ty' := 0) Try.underlying38 rfl) rfl ?_
  refine o_val (v_lss rfl rfl) rfl ?_
  refine o_nil ?_
  refine thn_n ?_
  first | refine w_condD rfl (fun h30 => ?_) (fun h30 => ?_) | refine w_cond rfl (fun h30 => ?_) (fun h30 => ?_)
  ·
   refine w_skip ?_
   refine thn_n ?_
   refine w_seq ?_
   refine w_block ?_
   refine w_seq ?_
   refine w_seq ?_
   refine w_holds (by repeat first | exact .head _ | apply List.Mem.tail) (fun hD => ?_)
   have hi2 : i < Ls.length := by omega
   have hx3 := hD _ (List.getElem_mem hi2)
   have hgm := (Td.ec 22 (.sl 5 (.int .u8))).g_nat hi2
   have hXL : (Ls.map (fun x => x.l)).getD i [] = ((Td.ec 22 (.sl 5 (.int .u8))).g Ls (i : Int)).l := by rw [hgm]; simp [List.getD_eq_getElem?_getD, hi2]
   rw [← hgm] at hx3
   refine w_add0 (RdR U5 ((Td.ec 22 (.sl 5 (.int .u8))).g Ls (i : Int)).p ((Td.ec 22 (.sl 5 (.int .u8))).g Ls (i : Int)).l.length ((Td.ec 22 (.sl 5 (.int .u8))).g Ls (i : Int)).l) hx3.2.1 ?_
   have hxb : BitP.Byt ((Td.ec 22 (.sl 5 (.int .u8))).g Ls (i : Int)).l := fun x hx => byte_in (hx3.2.2 x hx)
   have hw1 := hbk.wlen
   have hw2 := hbk.blen
   refine w_region ?_
   refine o_val (v_move rfl) rfl ?_
   refine o_val (v_move rfl) rfl ?_
   refine o_val (r_index (c := (Td.ec 22 (.sl 5 (.int .u8)))) V.sl38 rfl rfl (by first | exact own mm0 | exact own mm1 | exact own mm2 | exact own mm3 | exact own mm4 | exact own mm5 | exact own mm6 | exact own mm7 | exact own mm8 | exact own mm9 | exact own mm10 | exact own mm11 | exact rdH (fun _ _ h => h) mm0 | exact rdH (fun _ _ h => h) mm1 | exact rdH (fun _ _ h => h) mm2 | exact rdH (fun _ _ h => h) mm3 | exact rdH (fun _ _ h => h) mm4 | exact rdH (fun _ _ h => h) mm5 | exact rdH (fun _ _ h => h) mm6 | exact rdH (fun _ _ h => h) mm7 | exact rdH (fun _ _ h => h) mm8 | exact rdH (fun _ _ h => h) mm9 | exact rdH (fun _ _ h => h) mm10 | exact rdH (fun _ _ h => h) mm11 | exact deepH mm0 | exact deepH mm1 | exact deepH mm2 | exact deepH mm3 | exact deepH mm4 | exact deepH mm5 | exact deepH mm6 | exact deepH mm7 | exact deepH mm8 | exact deepH mm9 | exact deepH mm10 | exact deepH mm11) (by omega) (by omega)) rfl ?_
   refine o_val (r_load (c := (Td.ec 22 (.sl 5 (.int .u8)))) V.s22 rfl (by first | exact own mm0 | exact own mm1 | exact own mm2 | exact own mm3 | exact own mm4 | exact own mm5 | exact own mm6 | exact own mm7 | exact own mm8 | exact own mm9 | exact own mm10 | exact own mm11 | exact rdH (fun _ _ h => h) mm0 | exact rdH (fun _ _ h => h) mm1 | exact rdH (fun _ _ h => h) mm2 | exact rdH (fun _ _ h => h) mm3 | exact rdH (fun _ _ h => h) mm4 | exact rdH (fun _ _ h => h) mm5 | exact rdH (fun _ _ h => h) mm6 | exact rdH (fun _ _ h => h) mm7 | exact rdH (fun _ _ h => h) mm8 | exact rdH (fun _ _ h => h) mm9 | exact rdH (fun _ _ h => h) mm10 | exact rdH (fun _ _ h => h) mm11 | exact deepH mm0 | exact deepH mm1 | exact deepH mm2 | exact deepH mm3 | exact deepH mm4 | exact deepH mm5 | exact deepH mm6 | exact deepH mm7 | exact deepH mm8 | exact deepH mm9 | exact deepH mm10 | exact deepH mm11) (by omega) (by omega) rfl rfl) rfl ?_
   refine o_val (v_len (ty' := 0) Try.underlying22 rfl) rfl ?_
   refine o_val (v_gtr rfl rfl) rfl ?_
   refine o_nil ?_
   refine thn_n ?_
   first | refine w_condD rfl (fun h38 => ?_) (fun h38 => ?_) | refine w_cond rfl (fun h38 => ?_) (fun h38 => ?_)
   ·
    refine w_seq ?_
    refine w_region ?_
    refine o_val (v_assign rfl) rfl ?_
    refine o_nil ?_
    refine thn_n ?_
    refine w_ret ?_
    refine (thn_r (blk_r (thn_r (thn_r (blk_r (thn_r ?_))))))
    exact ret_ok (G := [Deep 22 (.sl 5 (.int .u8)) pl Ls.length Ls]) (res1 rfl) ⟨rfl, rfl⟩ (sub (.cons (by repeat first | exact .head | apply Rem.tail) .nil) (by repeat first | exact .refl | apply Drop.skip))
   ·
    refine w_skip ?_
    refine thn_n ?_
    refine w_seq ?_
    refine w_region ?_
    refine o_val (v_move rfl) rfl ?_
    refine o_val (v_move rfl) rfl ?_
    refine o_val (r_index (c := (Td.ec 22 (.sl 5 (.int .u8)))) V.sl38 rfl rfl (by first | exact own mm0 | exact own mm1 | exact own mm2 | exact own mm3 | exact own mm4 | exact own mm5 | exact own mm6 | exact own mm7 | exact own mm8 | exact own mm9 | exact own mm10 | exact own mm11 | exact rdH (fun _ _ h => h) mm0 | exact rdH (fun _ _ h => h) mm1 | exact rdH (fun _ _ h => h) mm2 | exact rdH (fun _ _ h => h) mm3 | exact rdH (fun _ _ h => h) mm4 | exact rdH (fun _ _ h => h) mm5 | exact rdH (fun _ _ h => h) mm6 | exact rdH (fun _ _ h => h) mm7 | exact rdH (fun _ _ h => h) mm8 | exact rdH (fun _ _ h => h) mm9 | exact rdH (fun _ _ h => h) mm10 | exact rdH (fun _ _ h => h) mm11 | exact deepH mm0 | exact deepH mm1 | exact deepH mm2 | exact deepH mm3 | exact deepH mm4 | exact deepH mm5 | exact deepH mm6 | exact deepH mm7 | exact deepH mm8 | exact deepH mm9 | exact deepH mm10 | exact deepH mm11) (by omega) (by omega)) rfl ?_
    refine o_val (r_load (c := (Td.ec 22 (.sl 5 (.int .u8)))) V.s22 rfl (by first | exact own mm0 | exact own mm1 | exact own mm2 | exact own mm3 | exact own mm4 | exact own mm5 | exact own mm6 | exact own mm7 | exact own mm8 | exact own mm9 | exact own mm10 | exact own mm11 | exact rdH (fun _ _ h => h) mm0 | exact rdH (fun _ _ h => h) mm1 | exact rdH (fun _ _ h => h) mm2 | exact rdH (fun _ _ h => h) mm3 | exact rdH (fun _ _ h => h) mm4 | exact rdH (fun _ _ h => h) mm5 | exact rdH (fun _ _ h => h) mm6 | exact rdH (fun _ _ h => h) mm7 | exact rdH (fun _ _ h => h) mm8 | exact rdH (fun _ _ h => h) mm9 | exact rdH (fun _ _ h => h) mm10 | exact rdH (fun _ _ h => h) mm11 | exact deepH mm0 | exact deepH mm1 | exact deepH mm2 | exact deepH mm3 | exact deepH mm4 | exact deepH mm5 | exact deepH mm6 | exact deepH mm7 | exact deepH mm8 | exact deepH mm9 | exact deepH mm10 | exact deepH mm11) (by omega) (by omega) rfl rfl) rfl ?_
    refine o_val (v_len (ty' := 0) Try.underlying22 rfl) rfl ?_
    refine o_val (v_assign rfl) rfl ?_
    refine o_val (v_assign rfl) rfl ?_
    refine o_nil ?_
    refine thn_n ?_
    refine w_seq ?_
    refine w_seq ?_
    refine w_region ?_
    refine o_val (v_move rfl) rfl ?_
    refine o_val (v_move rfl) rfl ?_
    refine o_val (v_len (ty' := 0) Try.underlying38 rfl) rfl ?_
    refine o_val (v_sub rfl rfl (wrapI (by omega) (by omega))) rfl ?_
    refine o_val (v_eql rfl rfl) rfl ?_
    refine o_nil ?_
    refine thn_n ?_
    first | refine w_condD rfl (fun h48 => ?_) (fun h48 => ?_) | refine w_cond rfl (fun h48 => ?_) (fun h48 => ?_)
    ·
     refine w_region ?_
     refine o_val (v_assign rfl) rfl ?_
     refine o_nil ?_
     refine thn_n ?_
     refine w_seq ?_
     refine w_net [⟨[], [], [5], 0, 0⟩, ⟨[], [], [9], 0, 0⟩, ⟨[], [], [8], 0, 0⟩, ⟨[2], [2], [], 0, 0⟩, ⟨[], [], [8], 0, 0⟩, ⟨[4], [4], [], 0, 0⟩, ⟨[4, 5], [5], [], 0, 0⟩, ⟨[], [], [8], 0, 0⟩, ⟨[7], [7], [], 0, 0⟩, ⟨[7, 8], [8], [], 0, 0⟩, ⟨[], [], [8], 0, 0⟩, ⟨[10], [10], [], 0, 0⟩, ⟨[10, 11], [11], [], 0, 0⟩, ⟨[10, 11, 12], [12], [], 0, 0⟩, ⟨[1, 2, 3, 4, 5, 6, 7, 8, 9, 10, 11, 12, 13], [1, 3, 6, 9, 13], [], 0, 0⟩, ⟨[0, 1, 2, 3, 4, 5, 6, 7, 8, 9, 10, 11, 12, 13, 14], [0, 14], [], 0, 0⟩, ⟨[], [], [0], 0, 0⟩, ⟨[], [], [7], 0, 0⟩, ⟨[16, 17], [16, 17], [], 0, 0⟩, ⟨[16, 17, 18], [18], [], 0, 0⟩, ⟨[0, 1, 2, 3, 4, 5, 6, 7, 8, 9, 10, 11, 12, 13, 14, 15, 16, 17, 18, 19], [15, 19], [], 0, 0⟩, ⟨[0, 1, 2, 3, 4, 5, 6, 7, 8, 9, 10, 11, 12, 13, 14, 15, 16, 17, 18, 19, 20], [20], [], 0, 0⟩] [⟨fun y => RdR U5 ((Td.ec 22 (.sl 5 (.int .u8))).g Ls (i : Int)).p ((Td.ec 22 (.sl 5 (.int .u8))).g Ls (i : Int)).l.length ((Td.ec 22 (.sl 5 (.int .u8))).g Ls (i : Int)).l, none, none, [20]⟩, ⟨fun y => Row U5 pb (InfP.blkI (Ls.map (fun x => x.l)) i).length cb (InfP.blkI (Ls.map (fun x => x.l)) i), none, some 15, []⟩, ⟨fun y => Row U5 pw (((Ls.map (fun x => x.l)).take i).flatten).length cw (((Ls.map (fun x => x.l)).take i).flatten), none, none, []⟩, ⟨fun y => Deep 22 (.sl 5 (.int .u8)) pl Ls.length Ls, none, none, [18, 19]⟩, ⟨fun y => Row (U5) (some ⟨(blk' (slP (y 14))), 0, none⟩) 5 5 [1, ((((Td.ec 22 (.sl 5 (.int .u8))).g Ls (i : Int)).l.length : Int) % 256), ((((Td.ec 22 (.sl 5 (.int .u8))).g Ls (i : Int)).l.length : Int) / 256), (255 - (((Td.ec 22 (.sl 5 (.int .u8))).g Ls (i : Int)).l.length : Int) % 256), (255 - (((Td.ec 22 (.sl 5 (.int .u8))).g Ls (i : Int)).l.length : Int) / 256)], some 14, none, [15]⟩, ⟨fun y => Row (U5) (slP (y 15)) ((InfP.blkI (Ls.map (fun x => x.l)) i).length + 5) (slC (y 15)) ((InfP.blkI (Ls.map (fun x => x.l)) i) ++ [1, ((((Td.ec 22 (.sl 5 (.int .u8))).g Ls (i : Int)).l.length : Int) % 256), ((((Td.ec 22 (.sl 5 (.int .u8))).g Ls (i : Int)).l.length : Int) / 256), (255 - (((Td.ec 22 (.sl 5 (.int .u8))).g Ls (i : Int)).l.length : Int) % 256), (255 - (((Td.ec 22 (.sl 5 (.int .u8))).g Ls (i : Int)).l.length : Int) / 256)]), some 15, some 20, []⟩, ⟨fun y => Row (U5) (slP (y 20)) (((InfP.blkI (Ls.map (fun x => x.l)) i).length + 5) + ((Td.ec 22 (.sl 5 (.int .u8))).g Ls (i : Int)).l.length) (slC (y 20)) (((InfP.blkI (Ls.map (fun x => x.l)) i) ++ [1, ((((Td.ec 22 (.sl 5 (.int .u8))).g Ls (i : Int)).l.length : Int) % 256), ((((Td.ec 22 (.sl 5 (.int .u8))).g Ls (i : Int)).l.length : Int) / 256), (255 - (((Td.ec 22 (.sl 5 (.int .u8))).g Ls (i : Int)).l.length : Int) % 256), (255 - (((Td.ec 22 (.sl 5 (.int .u8))).g Ls (i : Int)).l.length : Int) / 256)]) ++ ((Td.ec 22 (.sl 5 (.int .u8))).g Ls (i : Int)).l), some 20, none, []⟩] F V.mixed (by kernel_rfl) rfl (fun _ => .refl _) (locT_0 _ (locT_0 _ (locT_0 _ (locT_0 _ (locT_1 [1, 2, 3, 4, 5, 6, 7, 8, 9, 10, 11, 12, 13] rfl (by intro y y2 h; simp only [h 14 (.inl rfl)]) (locT_1 [0, 1, 2, 3, 4, 5, 6, 7, 8, 9, 10, 11, 12, 13, 14] rfl (by intro y y2 h; simp only [h 15 (.inl rfl)]) (locT_1 [0, 1, 2, 3, 4, 5, 6, 7, 8, 9, 10, 11, 12, 13, 14, 15, 16, 17, 18, 19] rfl (by intro y y2 h; simp only [h 20 (.inl rfl)]) locT_nil))))))) ?_
     refine net_pure (fun y => [(5, _)]) (fun y => rfl) rfl rfl rfl (fun y hA L => st_v (v_move rfl) ⟨rfl, rfl⟩) (by intros; rfl) (by intro y y2 h; rfl) ?_
     refine net_pure (fun y => [(9, _)]) (fun y => rfl) rfl rfl rfl (fun y hA L => st_v (v_move rfl) ⟨rfl, rfl⟩) (by intros; rfl) (by intro y y2 h; rfl) ?_
     refine net_pure (fun y => [(8, _)]) (fun y => rfl) rfl rfl rfl (fun y hA L => st_v (v_move rfl) ⟨rfl, rfl⟩) (by intros; rfl) (by intro y y2 h; rfl) ?_
     refine net_pure (fun y => [(51, _)]) (fun y => rfl) rfl rfl rfl (fun y hA L => st_v (v_conv V.u3 Try.underlying5 rfl (BitP.u8_mod (((Td.ec 22 (.sl 5 (.int .u8))).g Ls (i : Int)).l.length : Int))) ⟨rfl, rfl⟩) (by intros; rfl) (by intro y y2 h; rfl) ?_
     refine net_pure (fun y => [(8, _)]) (fun y => rfl) rfl rfl rfl (fun y hA L => st_v (v_move rfl) ⟨rfl, rfl⟩) (by intros; rfl) (by intro y y2 h; rfl) ?_
     refine net_pure (fun y => [(53, _)]) (fun y => rfl) rfl rfl rfl (fun y hA L => st_v (v_shr (r := (((Td.ec 22 (.sl 5 (.int .u8))).g Ls (i : Int)).l.length : Int) / 256) rfl rfl (by omega) (BitP.shrI (k := 8) (by decide) rfl)) ⟨rfl, rfl⟩) (by intros; rfl) (by intro y y2 h; rfl) ?_
     refine net_pure (fun y => [(54, _)]) (fun y => rfl) rfl rfl rfl (fun y hA L => st_v (v_conv V.u3 Try.underlying5 rfl (wrap8 (by omega) (by omega))) ⟨rfl, rfl⟩) (by intros; rfl) (by intro y y2 h; rfl) ?_
     refine net_pure (fun y => [(8, _)]) (fun y => rfl) rfl rfl rfl (fun y hA L => st_v (v_move rfl) ⟨rfl, rfl⟩) (by intros; rfl) (by intro y y2 h; rfl) ?_
     refine net_pure (fun y => [(56, _)]) (fun y => rfl) rfl rfl rfl (fun y hA L => st_v (v_compl (r := -(((Td.ec 22 (.sl 5 (.int .u8))).g Ls (i : Int)).l.length : Int) - 1) rfl (BitP.compl64 (by omega) (by omega))) ⟨rfl, rfl⟩) (by intros; rfl) (by intro y y2 h; rfl) ?_
     refine net_pure (fun y => [(57, _)]) (fun y => rfl) rfl rfl rfl (fun y hA L => st_v (v_conv V.u3 Try.underlying5 rfl ((BitP.u8_mod _).trans (show (-(((Td.ec 22 (.sl 5 (.int .u8))).g Ls (i : Int)).l.length : Int) - 1) % 256 = 255 - (((Td.ec 22 (.sl 5 (.int .u8))).g Ls (i : Int)).l.length : Int) % 256 from by omega))) ⟨rfl, rfl⟩) (by intros; rfl) (by intro y y2 h; rfl) ?_
     refine net_pure (fun y => [(8, _)]) (fun y => rfl) rfl rfl rfl (fun y hA L => st_v (v_move rfl) ⟨rfl, rfl⟩) (by intros; rfl) (by intro y y2 h; rfl) ?_
     refine net_pure (fun y => [(59, _)]) (fun y => rfl) rfl rfl rfl (fun y hA L => st_v (v_compl (r := -(((Td.ec 22 (.sl 5 (.int .u8))).g Ls (i : Int)).l.length : Int) - 1) rfl (BitP.compl64 (by omega) (by omega))) ⟨rfl, rfl⟩) (by intros; rfl) (by intro y y2 h; rfl) ?_
     refine net_pure (fun y => [(60, _)]) (fun y => rfl) rfl rfl rfl (fun y hA L => st_v (v_shr (r := (-(((Td.ec 22 (.sl 5 (.int .u8))).g Ls (i : Int)).l.length : Int) - 1) / 256) rfl rfl (by omega) (BitP.shrI (k := 8) (by decide) rfl)) ⟨rfl, rfl⟩) (by intros; rfl) (by intro y y2 h; rfl) ?_
     refine net_pure (fun y => [(61, _)]) (fun y => rfl) rfl rfl rfl (fun y hA L => st_v (v_conv V.u3 Try.underlying5 rfl ((BitP.u8_mod _).trans (show ((-(((Td.ec 22 (.sl 5 (.int .u8))).g Ls (i : Int)).l.length : Int) - 1) / 256) % 256 = 255 - (((Td.ec 22 (.sl 5 (.int .u8))).g Ls (i : Int)).l.length : Int) / 256 from by omega))) ⟨rfl, rfl⟩) (by intros; rfl) (by intro y y2 h; rfl) ?_
     refine net_new (fun y v => .slice (some ⟨blk' (slP v), 0, none⟩) 5 5) (fun y v => True) (fun y => []) (fun y => []) (fun y v => [Row (U5) (some ⟨(blk' (slP v)), 0, none⟩) 5 5 [1, ((((Td.ec 22 (.sl 5 (.int .u8))).g Ls (i : Int)).l.length : Int) % 256), ((((Td.ec 22 (.sl 5 (.int .u8))).g Ls (i : Int)).l.length : Int) / 256), (255 - (((Td.ec 22 (.sl 5 (.int .u8))).g Ls (i : Int)).l.length : Int) % 256), (255 - (((Td.ec 22 (.sl 5 (.int .u8))).g Ls (i : Int)).l.length : Int) / 256)]]) (fun y => [(50, _), (52, _), (55, _), (58, _), (62, _)]) (fun y => rfl) (fun y => rfl) (fun y => rfl) (fun y => rfl) (fun y FF hA => st_newN (r_buildX (U5) ([1, ((((Td.ec 22 (.sl 5 (.int .u8))).g Ls (i : Int)).l.length : Int) % 256), ((((Td.ec 22 (.sl 5 (.int .u8))).g Ls (i : Int)).l.length : Int) / 256), (255 - (((Td.ec 22 (.sl 5 (.int .u8))).g Ls (i : Int)).l.length : Int) % 256), (255 - (((Td.ec 22 (.sl 5 (.int .u8))).g Ls (i : Int)).l.length : Int) / 256)]) V.sl22 V.z5 rfl rfl rfl rfl rfl)) (by intros; rfl) (by intros; rfl) (by intros; rfl) (by intro y y2 h; simp only [h 14 (.inl rfl)]) (by intro y y2 h; rfl) ?_
     refine net_new (fun y v => .slice (slP v) ((InfP.blkI (Ls.map (fun x => x.l)) i).length + 5) (slC v)) (fun y v => True) (fun y => [Row U5 pb (InfP.blkI (Ls.map (fun x => x.l)) i).length cb (InfP.blkI (Ls.map (fun x => x.l)) i)]) (fun y => [Row (U5) (some ⟨(blk' (slP (y 14))), 0, none⟩) 5 5 [1, ((((Td.ec 22 (.sl 5 (.int .u8))).g Ls (i : Int)).l.length : Int) % 256), ((((Td.ec 22 (.sl 5 (.int .u8))).g Ls (i : Int)).l.length : Int) / 256), (255 - (((Td.ec 22 (.sl 5 (.int .u8))).g Ls (i : Int)).l.length : Int) % 256), (255 - (((Td.ec 22 (.sl 5 (.int .u8))).g Ls (i : Int)).l.length : Int) / 256)]]) (fun y v => [Row (U5) (slP v) ((InfP.blkI (Ls.map (fun x => x.l)) i).length + 5) (slC v) ((InfP.blkI (Ls.map (fun x => x.l)) i) ++ [1, ((((Td.ec 22 (.sl 5 (.int .u8))).g Ls (i : Int)).l.length : Int) % 256), ((((Td.ec 22 (.sl 5 (.int .u8))).g Ls (i : Int)).l.length : Int) / 256), (255 - (((Td.ec 22 (.sl 5 (.int .u8))).g Ls (i : Int)).l.length : Int) % 256), (255 - (((Td.ec 22 (.sl 5 (.int .u8))).g Ls (i : Int)).l.length : Int) / 256)])]) (fun y => [(49, _), (63, _)]) (fun y => rfl) (fun y => rfl) (fun y => rfl) (fun y => rfl) (fun y FF hA => st_appN (r_appendX (c := (U5)) V.sl22 V.z5 rfl rfl rfl rfl rr0 (by first | exact own mm0 | exact own mm1 | exact own mm2 | exact own mm3 | exact own mm4 | exact own mm5 | exact own mm6 | exact own mm7 | exact own mm8 | exact own mm9 | exact own mm10 | exact own mm11 | exact rdH (fun _ _ h => h) mm0 | exact rdH (fun _ _ h => h) mm1 | exact rdH (fun _ _ h => h) mm2 | exact rdH (fun _ _ h => h) mm3 | exact rdH (fun _ _ h => h) mm4 | exact rdH (fun _ _ h => h) mm5 | exact rdH (fun _ _ h => h) mm6 | exact rdH (fun _ _ h => h) mm7 | exact rdH (fun _ _ h => h) mm8 | exact rdH (fun _ _ h => h) mm9 | exact rdH (fun _ _ h => h) mm10 | exact rdH (fun _ _ h => h) mm11 | exact deepH mm0 | exact deepH mm1 | exact deepH mm2 | exact deepH mm3 | exact deepH mm4 | exact deepH mm5 | exact deepH mm6 | exact deepH mm7 | exact deepH mm8 | exact deepH mm9 | exact deepH mm10 | exact deepH mm11) (by omega)) (.refl _)) (by intros; rfl) (by intros; rfl) (by intros; rfl) (by intro y y2 h; simp only [h 14 (.inr (by decide)), h 15 (.inl rfl)]) (by intro y y2 h; rfl) ?_
     refine net_pure (fun y => [(0, _)]) (fun y => rfl) rfl rfl rfl (fun y hA L => st_v (v_move rfl) ⟨rfl, rfl⟩) (by intros; rfl) (by intro y y2 h; rfl) ?_
     refine net_pure (fun y => [(7, _)]) (fun y => rfl) rfl rfl rfl (fun y hA L => st_v (v_move rfl) ⟨rfl, rfl⟩) (by intros; rfl) (by intro y y2 h; rfl) ?_
     refine net_read (fun y => [Deep 22 (.sl 5 (.int .u8)) pl Ls.length Ls]) (fun y => [(65, _), (66, _)]) (fun y => rfl) rfl (fun y => rfl) rfl (fun y FF hA => st_v (r_index (c := (Td.ec 22 (.sl 5 (.int .u8)))) V.sl38 rfl rfl (by first | exact own mm0 | exact own mm1 | exact own mm2 | exact own mm3 | exact own mm4 | exact own mm5 | exact own mm6 | exact own mm7 | exact own mm8 | exact own mm9 | exact own mm10 | exact own mm11 | exact rdH (fun _ _ h => h) mm0 | exact rdH (fun _ _ h => h) mm1 | exact rdH (fun _ _ h => h) mm2 | exact rdH (fun _ _ h => h) mm3 | exact rdH (fun _ _ h => h) mm4 | exact rdH (fun _ _ h => h) mm5 | exact rdH (fun _ _ h => h) mm6 | exact rdH (fun _ _ h => h) mm7 | exact rdH (fun _ _ h => h) mm8 | exact rdH (fun _ _ h => h) mm9 | exact rdH (fun _ _ h => h) mm10 | exact rdH (fun _ _ h => h) mm11 | exact deepH mm0 | exact deepH mm1 | exact deepH mm2 | exact deepH mm3 | exact deepH mm4 | exact deepH mm5 | exact deepH mm6 | exact deepH mm7 | exact deepH mm8 | exact deepH mm9 | exact deepH mm10 | exact deepH mm11) (by omega) (by omega)) ⟨rfl, rfl⟩) (by intros; rfl) (by intro y y2 h; rfl) ?_
     refine net_read (fun y => [Deep 22 (.sl 5 (.int .u8)) pl Ls.length Ls]) (fun y => [(67, _)]) (fun y => rfl) rfl (fun y => rfl) rfl (fun y FF hA => st_v (r_load (c := (Td.ec 22 (.sl 5 (.int .u8)))) V.s22 rfl (by first | exact own mm0 | exact own mm1 | exact own mm2 | exact own mm3 | exact own mm4 | exact own mm5 | exact own mm6 | exact own mm7 | exact own mm8 | exact own mm9 | exact own mm10 | exact own mm11 | exact rdH (fun _ _ h => h) mm0 | exact rdH (fun _ _ h => h) mm1 | exact rdH (fun _ _ h => h) mm2 | exact rdH (fun _ _ h => h) mm3 | exact rdH (fun _ _ h => h) mm4 | exact rdH (fun _ _ h => h) mm5 | exact rdH (fun _ _ h => h) mm6 | exact rdH (fun _ _ h => h) mm7 | exact rdH (fun _ _ h => h) mm8 | exact rdH (fun _ _ h => h) mm9 | exact rdH (fun _ _ h => h) mm10 | exact rdH (fun _ _ h => h) mm11 | exact deepH mm0 | exact deepH mm1 | exact deepH mm2 | exact deepH mm3 | exact deepH mm4 | exact deepH mm5 | exact deepH mm6 | exact deepH mm7 | exact deepH mm8 | exact deepH mm9 | exact deepH mm10 | exact deepH mm11) (by omega) (by omega) rfl rfl) ⟨rfl, rfl⟩) (by intros; rfl) (by intro y y2 h; rfl) ?_
     refine net_new (fun y v => .slice (slP v) (((InfP.blkI (Ls.map (fun x => x.l)) i).length + 5) + ((Td.ec 22 (.sl 5 (.int .u8))).g Ls (i : Int)).l.length) (slC v)) (fun y v => True) (fun y => [Row (U5) (slP (y 15)) ((InfP.blkI (Ls.map (fun x => x.l)) i).length + 5) (slC (y 15)) ((InfP.blkI (Ls.map (fun x => x.l)) i) ++ [1, ((((Td.ec 22 (.sl 5 (.int .u8))).g Ls (i : Int)).l.length : Int) % 256), ((((Td.ec 22 (.sl 5 (.int .u8))).g Ls (i : Int)).l.length : Int) / 256), (255 - (((Td.ec 22 (.sl 5 (.int .u8))).g Ls (i : Int)).l.length : Int) % 256), (255 - (((Td.ec 22 (.sl 5 (.int .u8))).g Ls (i : Int)).l.length : Int) / 256)])]) (fun y => [RdR U5 ((Td.ec 22 (.sl 5 (.int .u8))).g Ls (i : Int)).p ((Td.ec 22 (.sl 5 (.int .u8))).g Ls (i : Int)).l.length ((Td.ec 22 (.sl 5 (.int .u8))).g Ls (i : Int)).l]) (fun y v => [Row (U5) (slP v) (((InfP.blkI (Ls.map (fun x => x.l)) i).length + 5) + ((Td.ec 22 (.sl 5 (.int .u8))).g Ls (i : Int)).l.length) (slC v) (((InfP.blkI (Ls.map (fun x => x.l)) i) ++ [1, ((((Td.ec 22 (.sl 5 (.int .u8))).g Ls (i : Int)).l.length : Int) % 256), ((((Td.ec 22 (.sl 5 (.int .u8))).g Ls (i : Int)).l.length : Int) / 256), (255 - (((Td.ec 22 (.sl 5 (.int .u8))).g Ls (i : Int)).l.length : Int) % 256), (255 - (((Td.ec 22 (.sl 5 (.int .u8))).g Ls (i : Int)).l.length : Int) / 256)]) ++ ((Td.ec 22 (.sl 5 (.int .u8))).g Ls (i : Int)).l)]) (fun y => [(64, _), (68, _)]) (fun y => rfl) (fun y => rfl) (fun y => rfl) (fun y => rfl) (fun y FF hA => st_appN (r_appendX (c := (U5)) V.sl22 V.z5 rfl rfl rfl rfl rr0 (by first | exact own mm0 | exact own mm1 | exact own mm2 | exact own mm3 | exact own mm4 | exact own mm5 | exact own mm6 | exact own mm7 | exact own mm8 | exact own mm9 | exact own mm10 | exact own mm11 | exact rdH (fun _ _ h => h) mm0 | exact rdH (fun _ _ h => h) mm1 | exact rdH (fun _ _ h => h) mm2 | exact rdH (fun _ _ h => h) mm3 | exact rdH (fun _ _ h => h) mm4 | exact rdH (fun _ _ h => h) mm5 | exact rdH (fun _ _ h => h) mm6 | exact rdH (fun _ _ h => h) mm7 | exact rdH (fun _ _ h => h) mm8 | exact rdH (fun _ _ h => h) mm9 | exact rdH (fun _ _ h => h) mm10 | exact rdH (fun _ _ h => h) mm11 | exact deepH mm0 | exact deepH mm1 | exact deepH mm2 | exact deepH mm3 | exact deepH mm4 | exact deepH mm5 | exact deepH mm6 | exact deepH mm7 | exact deepH mm8 | exact deepH mm9 | exact deepH mm10 | exact deepH mm11) (by omega)) (.refl _)) (by intros; rfl) (by intros; rfl) (by intros; rfl) (by intro y y2 h; simp only [h 15 (.inr (by decide)), h 20 (.inl rfl)]) (by intro y y2 h; rfl) ?_
     refine net_pure (fun y => [(69, _)]) (fun y => rfl) rfl rfl rfl (fun y hA L => st_v (v_assign rfl) ⟨rfl, rfl⟩) (by intros; rfl) (by intro y y2 h; first | rfl | simp only [h 20 (.inr (by decide))]) ?_
     refine net_nil ?_
     intro y hA
     clear hA
     refine thn_n ?_
     refine w_keep _ (.cons (d := 0) rfl (.cons (d := 1) rfl (.cons (d := 5) rfl (.cons (d := 6) rfl (.cons (d := 7) rfl (.nil _)))))) ?_
     refine w_sub (M := RdR U5 ((Td.ec 22 (.sl 5 (.int .u8))).g Ls (i : Int)).p ((Td.ec 22 (.sl 5 (.int .u8))).g Ls (i : Int)).l.length ((Td.ec 22 (.sl 5 (.int .u8))).g Ls (i : Int)).l :: Row U5 pw (((Ls.map (fun x => x.l)).take i).flatten).length cw (((Ls.map (fun x => x.l)).take i).flatten) :: Deep 22 (.sl 5 (.int .u8)) pl Ls.length Ls :: Row (U5) (some ⟨(blk' (slP (y 14))), 0, none⟩) 5 5 [1, ((((Td.ec 22 (.sl 5 (.int .u8))).g Ls (i : Int)).l.length : Int) % 256), ((((Td.ec 22 (.sl 5 (.int .u8))).g Ls (i : Int)).l.length : Int) / 256), (255 - (((Td.ec 22 (.sl 5 (.int .u8))).g Ls (i : Int)).l.length : Int) % 256), (255 - (((Td.ec 22 (.sl 5 (.int .u8))).g Ls (i : Int)).l.length : Int) / 256)] :: Row (U5) (slP (y 20)) (((InfP.blkI (Ls.map (fun x => x.l)) i).length + 5) + ((Td.ec 22 (.sl 5 (.int .u8))).g Ls (i : Int)).l.length) (slC (y 20)) (((InfP.blkI (Ls.map (fun x => x.l)) i) ++ [1, ((((Td.ec 22 (.sl 5 (.int .u8))).g Ls (i : Int)).l.length : Int) % 256), ((((Td.ec 22 (.sl 5 (.int .u8))).g Ls (i : Int)).l.length : Int) / 256), (255 - (((Td.ec 22 (.sl 5 (.int .u8))).g Ls (i : Int)).l.length : Int) % 256), (255 - (((Td.ec 22 (.sl 5 (.int .u8))).g Ls (i : Int)).l.length : Int) / 256)]) ++ ((Td.ec 22 (.sl 5 (.int .u8))).g Ls (i : Int)).l) :: F) (fun _ _ h => h) ?_
     refine w_sub (sub .nil (.keep (.keep (.keep (.skip (.keep .refl)))))) ?_
     simp only [List.nil_append]
     generalize (blk' (slP (y 14))) = b63
     generalize (slP (y 15)) = p64
     generalize (slC (y 15)) = c64
     generalize (slP (y 20)) = p69
     generalize (slC (y 20)) = c69
     refine w_region ?_
     refine o_val (v_move rfl) rfl ?_
     refine o_val (v_move rfl) rfl ?_
     refine o_val (v_move rfl) rfl ?_
     refine o_val (r_index (c := (Td.ec 22 (.sl 5 (.int .u8)))) V.sl38 rfl rfl (by first | exact own mm0 | exact own mm1 | exact own mm2 | exact own mm3 | exact own mm4 | exact own mm5 | exact own mm6 | exact own mm7 | exact own mm8 | exact own mm9 | exact own mm10 | exact own mm11 | exact rdH (fun _ _ h => h) mm0 | exact rdH (fun _ _ h => h) mm1 | exact rdH (fun _ _ h => h) mm2 | exact rdH (fun _ _ h => h) mm3 | exact rdH (fun _ _ h => h) mm4 | exact rdH (fun _ _ h => h) mm5 | exact rdH (fun _ _ h => h) mm6 | exact rdH (fun _ _ h => h) mm7 | exact rdH (fun _ _ h => h) mm8 | exact rdH (fun _ _ h => h) mm9 | exact rdH (fun _ _ h => h) mm10 | exact rdH (fun _ _ h => h) mm11 | exact deepH mm0 | exact deepH mm1 | exact deepH mm2 | exact deepH mm3 | exact deepH mm4 | exact deepH mm5 | exact deepH mm6 | exact deepH mm7 | exact deepH mm8 | exact deepH mm9 | exact deepH mm10 | exact deepH mm11) (by omega) (by omega)) rfl ?_
     refine o_val (r_load (c := (Td.ec 22 (.sl 5 (.int .u8)))) V.s22 rfl (by first | exact own mm0 | exact own mm1 | exact own mm2 | exact own mm3 | exact own mm4 | exact own mm5 | exact own mm6 | exact own mm7 | exact own mm8 | exact own mm9 | exact own mm10 | exact own mm11 | exact rdH (fun _ _ h => h) mm0 | exact rdH (fun _ _ h => h) mm1 | exact rdH (fun _ _ h => h) mm2 | exact rdH (fun _ _ h => h) mm3 | exact rdH (fun _ _ h => h) mm4 | exact rdH (fun _ _ h => h) mm5 | exact rdH (fun _ _ h => h) mm6 | exact rdH (fun _ _ h => h) mm7 | exact rdH (fun _ _ h => h) mm8 | exact rdH (fun _ _ h => h) mm9 | exact rdH (fun _ _ h => h) mm10 | exact rdH (fun _ _ h => h) mm11 | exact deepH mm0 | exact deepH mm1 | exact deepH mm2 | exact deepH mm3 | exact deepH mm4 | exact deepH mm5 | exact deepH mm6 | exact deepH mm7 | exact deepH mm8 | exact deepH mm9 | exact deepH mm10 | exact deepH mm11) (by omega) (by omega) rfl rfl) rfl ?_
     refine r_append (c := (U5)) V.sl22 V.z5 rfl rfl rfl rfl (by repeat first | exact .head | apply Rem.tail) (by first | exact rdH (fun _ _ h => h) mm0 | exact rdH (fun _ _ h => h) mm1 | exact rdH (fun _ _ h => h) mm2 | exact rdH (fun _ _ h => h) mm3 | exact rdH (fun _ _ h => h) mm4 | exact rdH (fun _ _ h => h) mm5 | exact rdH (fun _ _ h => h) mm6 | exact rdH (fun _ _ h => h) mm7) (by omega) rfl ?_
     intro p75 c75
     refine o_val (v_assign rfl) rfl ?_
     refine o_nil ?_
     refine blk_n ?_
     refine thn_n ?_
     refine w_region ?_
     refine o_val (v_move rfl) rfl ?_
     refine o_val (v_add rfl rfl (wrapI (by omega) (by omega))) rfl ?_
     refine o_val (v_assign rfl) rfl ?_
     refine o_nil ?_
     first
     | (have hnx : InfP.blkI (Ls.map (fun x => x.l)) (i + 1) = _ := InfP.blkI_next (la := 1) hXL (by rw [if_pos (by omega)]); rw [show (InfP.blkI (Ls.map (fun x => x.l)) i) ++ [1, (((Td.ec 22 (.sl 5 (.int .u8))).g Ls (i : Int)).l.length : Int) % 256, (((Td.ec 22 (.sl 5 (.int .u8))).g Ls (i : Int)).l.length : Int) / 256, 255 - (((Td.ec 22 (.sl 5 (.int .u8))).g Ls (i : Int)).l.length : Int) % 256, 255 - (((Td.ec 22 (.sl 5 (.int .u8))).g Ls (i : Int)).l.length : Int) / 256] ++ ((Td.ec 22 (.sl 5 (.int .u8))).g Ls (i : Int)).l = InfP.blkI (Ls.map (fun x => x.l)) (i + 1) from hnx.symm, show (InfP.blkI (Ls.map (fun x => x.l)) i).length + 5 + ((Td.ec 22 (.sl 5 (.int .u8))).g Ls (i : Int)).l.length = (InfP.blkI (Ls.map (fun x => x.l)) (i + 1)).length from (by rw [hnx]; simp; omega), show (((Ls.map (fun x => x.l)).take i).flatten) ++ ((Td.ec 22 (.sl 5 (.int .u8))).g Ls (i : Int)).l = ((Ls.map (fun x => x.l)).take (i + 1)).flatten from (InfP.flat_next (by omega) hXL).symm, show (((Ls.map (fun x => x.l)).take i).flatten).length + ((Td.ec 22 (.sl 5 (.int .u8))).g Ls (i : Int)).l.length = ((Ls.map (fun x => x.l)).take (i + 1)).flatten.length from (by rw [InfP.flat_next (by omega) hXL]; simp)]; refine j5 (i + 1) _ _ _ _ ?_ (.cons rfl (.cons rfl (.cons rfl (.cons rfl (.cons rfl (.nil _)))))) (sub (.cons (by repeat first | exact .head | apply Rem.tail) (.cons (by repeat first | exact .head | apply Rem.tail) (.cons (by repeat first | exact .head | apply Rem.tail) .nil))) (by repeat first | exact .refl | apply Drop.skip)); exact ⟨hbk.next (by omega) hXL (by omega) hxb, by omega⟩)
     | (have hnx : InfP.blkI (Ls.map (fun x => x.l)) (i + 1) = _ := InfP.blkI_next (la := 0) hXL (by rw [if_neg (by omega)]); rw [show (InfP.blkI (Ls.map (fun x => x.l)) i) ++ [0, (((Td.ec 22 (.sl 5 (.int .u8))).g Ls (i : Int)).l.length : Int) % 256, (((Td.ec 22 (.sl 5 (.int .u8))).g Ls (i : Int)).l.length : Int) / 256, 255 - (((Td.ec 22 (.sl 5 (.int .u8))).g Ls (i : Int)).l.length : Int) % 256, 255 - (((Td.ec 22 (.sl 5 (.int .u8))).g Ls (i : Int)).l.length : Int) / 256] ++ ((Td.ec 22 (.sl 5 (.int .u8))).g Ls (i : Int)).l = InfP.blkI (Ls.map (fun x => x.l)) (i + 1) from hnx.symm, show (InfP.blkI (Ls.map (fun x => x.l)) i).length + 5 + ((Td.ec 22 (.sl 5 (.int .u8))).g Ls (i : Int)).l.length = (InfP.blkI (Ls.map (fun x => x.l)) (i + 1)).length from (by rw [hnx]; simp; omega), show (((Ls.map (fun x => x.l)).take i).flatten) ++ ((Td.ec 22 (.sl 5 (.int .u8))).g Ls (i : Int)).l = ((Ls.map (fun x => x.l)).take (i + 1)).flatten from (InfP.flat_next (by omega) hXL).symm, show (((Ls.map (fun x => x.l)).take i).flatten).length + ((Td.ec 22 (.sl 5 (.int .u8))).g Ls (i : Int)).l.length = ((Ls.map (fun x => x.l)).take (i + 1)).flatten.length from (by rw [InfP.flat_next (by omega) hXL]; simp)]; refine j5 (i + 1) _ _ _ _ ?_ (.cons rfl (.cons rfl (.cons rfl (.cons rfl (.cons rfl (.nil _)))))) (sub (.cons (by repeat first | exact .head | apply Rem.tail) (.cons (by repeat first | exact .head | apply Rem.tail) (.cons (by repeat first | exact .head | apply Rem.tail) .nil))) (by repeat first | exact .refl | apply Drop.skip)); exact ⟨hbk.next (by omega) hXL (by omega) hxb, by omega⟩)
    ·
     refine w_skip ?_
     refine thn_n ?_
     refine w_seq ?_
     refine w_net [⟨[], [], [5], 0, 0⟩, ⟨[], [], [9], 0, 0⟩, ⟨[], [], [8], 0, 0⟩, ⟨[2], [2], [], 0, 0⟩, ⟨[], [], [8], 0, 0⟩, ⟨[4], [4], [], 0, 0⟩, ⟨[4, 5], [5], [], 0, 0⟩, ⟨[], [], [8], 0, 0⟩, ⟨[7], [7], [], 0, 0⟩, ⟨[7, 8], [8], [], 0, 0⟩, ⟨[], [], [8], 0, 0⟩, ⟨[10], [10], [], 0, 0⟩, ⟨[10, 11], [11], [], 0, 0⟩, ⟨[10, 11, 12], [12], [], 0, 0⟩, ⟨[1, 2, 3, 4, 5, 6, 7, 8, 9, 10, 11, 12, 13], [1, 3, 6, 9, 13], [], 0, 0⟩, ⟨[0, 1, 2, 3, 4, 5, 6, 7, 8, 9, 10, 11, 12, 13, 14], [0, 14], [], 0, 0⟩, ⟨[], [], [0], 0, 0⟩, ⟨[], [], [7], 0, 0⟩, ⟨[16, 17], [16, 17], [], 0, 0⟩, ⟨[16, 17, 18], [18], [], 0, 0⟩, ⟨[0, 1, 2, 3, 4, 5, 6, 7, 8, 9, 10, 11, 12, 13, 14, 15, 16, 17, 18, 19], [15, 19], [], 0, 0⟩, ⟨[0, 1, 2, 3, 4, 5, 6, 7, 8, 9, 10, 11, 12, 13, 14, 15, 16, 17, 18, 19, 20], [20], [], 0, 0⟩] [⟨fun y => RdR U5 ((Td.ec 22 (.sl 5 (.int .u8))).g Ls (i : Int)).p ((Td.ec 22 (.sl 5 (.int .u8))).g Ls (i : Int)).l.length ((Td.ec 22 (.sl 5 (.int .u8))).g Ls (i : Int)).l, none, none, [20]⟩, ⟨fun y => Row U5 pb (InfP.blkI (Ls.map (fun x => x.l)) i).length cb (InfP.blkI (Ls.map (fun x => x.l)) i), none, some 15, []⟩, ⟨fun y => Row U5 pw (((Ls.map (fun x => x.l)).take i).flatten).length cw (((Ls.map (fun x => x.l)).take i).flatten), none, none, []⟩, ⟨fun y => Deep 22 (.sl 5 (.int .u8)) pl Ls.length Ls, none, none, [18, 19]⟩, ⟨fun y => Row (U5) (some ⟨(blk' (slP (y 14))), 0, none⟩) 5 5 [0, ((((Td.ec 22 (.sl 5 (.int .u8))).g Ls (i : Int)).l.length : Int) % 256), ((((Td.ec 22 (.sl 5 (.int .u8))).g Ls (i : Int)).l.length : Int) / 256), (255 - (((Td.ec 22 (.sl 5 (.int .u8))).g Ls (i : Int)).l.length : Int) % 256), (255 - (((Td.ec 22 (.sl 5 (.int .u8))).g Ls (i : Int)).l.length : Int) / 256)], some 14, none, [15]⟩, ⟨fun y => Row (U5) (slP (y 15)) ((InfP.blkI (Ls.map (fun x => x.l)) i).length + 5) (slC (y 15)) ((InfP.blkI (Ls.map (fun x => x.l)) i) ++ [0, ((((Td.ec 22 (.sl 5 (.int .u8))).g Ls (i : Int)).l.length : Int) % 256), ((((Td.ec 22 (.sl 5 (.int .u8))).g Ls (i : Int)).l.length : Int) / 256), (255 - (((Td.ec 22 (.sl 5 (.int .u8))).g Ls (i : Int)).l.length : Int) % 256), (255 - (((Td.ec 22 (.sl 5 (.int .u8))).g Ls (i : Int)).l.length : Int) / 256)]), some 15, some 20, []⟩, ⟨fun y => Row (U5) (slP (y 20)) (((InfP.blkI (Ls.map (fun x => x.l)) i).length + 5) + ((Td.ec 22 (.sl 5 (.int .u8))).g Ls (i : Int)).l.length) (slC (y 20)) (((InfP.blkI (Ls.map (fun x => x.l)) i) ++ [0, ((((Td.ec 22 (.sl 5 (.int .u8))).g Ls (i : Int)).l.length : Int) % 256), ((((Td.ec 22 (.sl 5 (.int .u8))).g Ls (i : Int)).l.length : Int) / 256), (255 - (((Td.ec 22 (.sl 5 (.int .u8))).g Ls (i : Int)).l.length : Int) % 256), (255 - (((Td.ec 22 (.sl 5 (.int .u8))).g Ls (i : Int)).l.length : Int) / 256)]) ++ ((Td.ec 22 (.sl 5 (.int .u8))).g Ls (i : Int)).l), some 20, none, []⟩] F V.mixed (by kernel_rfl) rfl (fun _ => .refl _) (locT_0 _ (locT_0 _ (locT_0 _ (locT_0 _ (locT_1 [1, 2, 3, 4, 5, 6, 7, 8, 9, 10, 11, 12, 13] rfl (by intro y y2 h; simp only [h 14 (.inl rfl)]) (locT_1 [0, 1, 2, 3, 4, 5, 6, 7, 8, 9, 10, 11, 12, 13, 14] rfl (by intro y y2 h; simp only [h 15 (.inl rfl)]) (locT_1 [0, 1, 2, 3, 4, 5, 6, 7, 8, 9, 10, 11, 12, 13, 14, 15, 16, 17, 18, 19] rfl (by intro y y2 h; simp only [h 20 (.inl rfl)]) locT_nil))))))) ?_
     refine net_pure (fun y => [(5, _)]) (fun y => rfl) rfl rfl rfl (fun y hA L => st_v (v_move rfl) ⟨rfl, rfl⟩) (by intros; rfl) (by intro y y2 h; rfl) ?_
     refine net_pure (fun y => [(9, _)]) (fun y => rfl) rfl rfl rfl (fun y hA L => st_v (v_move rfl) ⟨rfl, rfl⟩) (by intros; rfl) (by intro y y2 h; rfl) ?_
     refine net_pure (fun y => [(8, _)]) (fun y => rfl) rfl rfl rfl (fun y hA L => st_v (v_move rfl) ⟨rfl, rfl⟩) (by intros; rfl) (by intro y y2 h; rfl) ?_
     refine net_pure (fun y => [(51, _)]) (fun y => rfl) rfl rfl rfl (fun y hA L => st_v (v_conv V.u3 Try.underlying5 rfl (BitP.u8_mod (((Td.ec 22 (.sl 5 (.int .u8))).g Ls (i : Int)).l.length : Int))) ⟨rfl, rfl⟩) (by intros; rfl) (by intro y y2 h; rfl) ?_
     refine net_pure (fun y => [(8, _)]) (fun y => rfl) rfl rfl rfl (fun y hA L => st_v (v_move rfl) ⟨rfl, rfl⟩) (by intros; rfl) (by intro y y2 h; rfl) ?_
     refine net_pure (fun y => [(53, _)]) (fun y => rfl) rfl rfl rfl (fun y hA L => st_v (v_shr (r := (((Td.ec 22 (.sl 5 (.int .u8))).g Ls (i : Int)).l.length : Int) / 256) rfl rfl (by omega) (BitP.shrI (k := 8) (by decide) rfl)) ⟨rfl, rfl⟩) (by intros; rfl) (by intro y y2 h; rfl) ?_
     refine net_pure (fun y => [(54, _)]) (fun y => rfl) rfl rfl rfl (fun y hA L => st_v (v_conv V.u3 Try.underlying5 rfl (wrap8 (by omega) (by omega))) ⟨rfl, rfl⟩) (by intros; rfl) (by intro y y2 h; rfl) ?_
     refine net_pure (fun y => [(8, _)]) (fun y => rfl) rfl rfl rfl (fun y hA L => st_v (v_move rfl) ⟨rfl, rfl⟩) (by intros; rfl) (by intro y y2 h; rfl) ?_
     refine net_pure (fun y => [(56, _)]) (fun y => rfl) rfl rfl rfl (fun y hA L => st_v (v_compl (r := -(((Td.ec 22 (.sl 5 (.int .u8))).g Ls (i : Int)).l.length : Int) - 1) rfl (BitP.compl64 (by omega) (by omega))) ⟨rfl, rfl⟩) (by intros; rfl) (by intro y y2 h; rfl) ?_
     refine net_pure (fun y => [(57, _)]) (fun y => rfl) rfl rfl rfl (fun y hA L => st_v (v_conv V.u3 Try.underlying5 rfl ((BitP.u8_mod _).trans (show (-(((Td.ec 22 (.sl 5 (.int .u8))).g Ls (i : Int)).l.length : Int) - 1) % 256 = 255 - (((Td.ec 22 (.sl 5 (.int .u8))).g Ls (i : Int)).l.length : Int) % 256 from by omega))) ⟨rfl, rfl⟩) (by intros; rfl) (by intro y y2 h; rfl) ?_
     refine net_pure (fun y => [(8, _)]) (fun y => rfl) rfl rfl rfl (fun y hA L => st_v (v_move rfl) ⟨rfl, rfl⟩) (by intros; rfl) (by intro y y2 h; rfl) ?_
     refine net_pure (fun y => [(59, _)]) (fun y => rfl) rfl rfl rfl (fun y hA L => st_v (v_compl (r := -(((Td.ec 22 (.sl 5 (.int .u8))).g Ls (i : Int)).l.length : Int) - 1) rfl (BitP.compl64 (by omega) (by omega))) ⟨rfl, rfl⟩) (by intros; rfl) (by intro y y2 h; rfl) ?_
     refine net_pure (fun y => [(60, _)]) (fun y => rfl) rfl rfl rfl (fun y hA L => st_v (v_shr (r := (-(((Td.ec 22 (.sl 5 (.int .u8))).g Ls (i : Int)).l.length : Int) - 1) / 256) rfl rfl (by omega) (BitP.shrI (k := 8) (by decide) rfl)) ⟨rfl, rfl⟩) (by intros; rfl) (by intro y y2 h; rfl) ?_
     refine net_pure (fun y => [(61, _)]) (fun y => rfl) rfl rfl rfl (fun y hA L => st_v (v_conv V.u3 Try.underlying5 rfl ((BitP.u8_mod _).trans (show ((-(((Td.ec 22 (.sl 5 (.int .u8))).g Ls (i : Int)).l.length : Int) - 1) / 256) % 256 = 255 - (((Td.ec 22 (.sl 5 (.int .u8))).g Ls (i : Int)).l.length : Int) / 256 from by omega))) ⟨rfl, rfl⟩) (by intros; rfl) (by intro y y2 h; rfl) ?_
     refine net_new (fun y v => .slice (some ⟨blk' (slP v), 0, none⟩) 5 5) (fun y v => True) (fun y => []) (fun y => []) (fun y v => [Row (U5) (some ⟨(blk' (slP v)), 0, none⟩) 5 5 [0, ((((Td.ec 22 (.sl 5 (.int .u8))).g Ls (i : Int)).l.length : Int) % 256), ((((Td.ec 22 (.sl 5 (.int .u8))).g Ls (i : Int)).l.length : Int) / 256), (255 - (((Td.ec 22 (.sl 5 (.int .u8))).g Ls (i : Int)).l.length : Int) % 256), (255 - (((Td.ec 22 (.sl 5 (.int .u8))).g Ls (i : Int)).l.length : Int) / 256)]]) (fun y => [(50, _), (52, _), (55, _), (58, _), (62, _)]) (fun y => rfl) (fun y => rfl) (fun y => rfl) (fun y => rfl) (fun y FF hA => st_newN (r_buildX (U5) ([0, ((((Td.ec 22 (.sl 5 (.int .u8))).g Ls (i : Int)).l.length : Int) % 256), ((((Td.ec 22 (.sl 5 (.int .u8))).g Ls (i : Int)).l.length : Int) / 256), (255 - (((Td.ec 22 (.sl 5 (.int .u8))).g Ls (i : Int)).l.length : Int) % 256), (255 - (((Td.ec 22 (.sl 5 (.int .u8))).g Ls (i : Int)).l.length : Int) / 256)]) V.sl22 V.z5 rfl rfl rfl rfl rfl)) (by intros; rfl) (by intros; rfl) (by intros; rfl) (by intro y y2 h; simp only [h 14 (.inl rfl)]) (by intro y y2 h; rfl) ?_
     refine net_new (fun y v => .slice (slP v) ((InfP.blkI (Ls.map (fun x => x.l)) i).length + 5) (slC v)) (fun y v => True) (fun y => [Row U5 pb (InfP.blkI (Ls.map (fun x => x.l)) i).length cb (InfP.blkI (Ls.map (fun x => x.l)) i)]) (fun y => [Row (U5) (some ⟨(blk' (slP (y 14))), 0, none⟩) 5 5 [0, ((((Td.ec 22 (.sl 5 (.int .u8))).g Ls (i : Int)).l.length : Int) % 256), ((((Td.ec 22 (.sl 5 (.int .u8))).g Ls (i : Int)).l.length : Int) / 256), (255 - (((Td.ec 22 (.sl 5 (.int .u8))).g Ls (i : Int)).l.length : Int) % 256), (255 - (((Td.ec 22 (.sl 5 (.int .u8))).g Ls (i : Int)).l.length : Int) / 256)]]) (fun y v => [Row (U5) (slP v) ((InfP.blkI (Ls.map (fun x => x.l)) i).length + 5) (slC v) ((InfP.blkI (Ls.map (fun x => x.l)) i) ++ [0, ((((Td.ec 22 (.sl 5 (.int .u8))).g Ls (i : Int)).l.length : Int) % 256), ((((Td.ec 22 (.sl 5 (.int .u8))).g Ls (i : Int)).l.length : Int) / 256), (255 - (((Td.ec 22 (.sl 5 (.int .u8))).g Ls (i : Int)).l.length : Int) % 256), (255 - (((Td.ec 22 (.sl 5 (.int .u8))).g Ls (i : Int)).l.length : Int) / 256)])]) (fun y => [(49, _), (63, _)]) (fun y => rfl) (fun y => rfl) (fun y => rfl) (fun y => rfl) (fun y FF hA => st_appN (r_appendX (c := (U5)) V.sl22 V.z5 rfl rfl rfl rfl rr0 (by first | exact own mm0 | exact own mm1 | exact own mm2 | exact own mm3 | exact own mm4 | exact own mm5 | exact own mm6 | exact own mm7 | exact own mm8 | exact own mm9 | exact own mm10 | exact own mm11 | exact rdH (fun _ _ h => h) mm0 | exact rdH (fun _ _ h => h) mm1 | exact rdH (fun _ _ h => h) mm2 | exact rdH (fun _ _ h => h) mm3 | exact rdH (fun _ _ h => h) mm4 | exact rdH (fun _ _ h => h) mm5 | exact rdH (fun _ _ h => h) mm6 | exact rdH (fun _ _ h => h) mm7 | exact rdH (fun _ _ h => h) mm8 | exact rdH (fun _ _ h => h) mm9 | exact rdH (fun _ _ h => h) mm10 | exact rdH (fun _ _ h => h) mm11 | exact deepH mm0 | exact deepH mm1 | exact deepH mm2 | exact deepH mm3 | exact deepH mm4 | exact deepH mm5 | exact deepH mm6 | exact deepH mm7 | exact deepH mm8 | exact deepH mm9 | exact deepH mm10 | exact deepH mm11) (by omega)) (.refl _)) (by intros; rfl) (by intros; rfl) (by intros; rfl) (by intro y y2 h; simp only [h 14 (.inr (by decide)), h 15 (.inl rfl)]) (by intro y y2 h; rfl) ?_
     refine net_pure (fun y => [(0, _)]) (fun y => rfl) rfl rfl rfl (fun y hA L => st_v (v_move rfl) ⟨rfl, rfl⟩) (by intros; rfl) (by intro y y2 h; rfl) ?_
     refine net_pure (fun y => [(7, _)]) (fun y => rfl) rfl rfl rfl (fun y hA L => st_v (v_move rfl) ⟨rfl, rfl⟩) (by intros; rfl) (by intro y y2 h; rfl) ?_
     refine net_read (fun y => [Deep 22 (.sl 5 (.int .u8)) pl Ls.length Ls]) (fun y => [(65, _), (66, _)]) (fun y => rfl) rfl (fun y => rfl) rfl (fun y FF hA => st_v (r_index (c := (Td.ec 22 (.sl 5 (.int .u8)))) V.sl38 rfl rfl (by first | exact own mm0 | exact own mm1 | exact own mm2 | exact own mm3 | exact own mm4 | exact own mm5 | exact own mm6 | exact own mm7 | exact own mm8 | exact own mm9 | exact own mm10 | exact own mm11 | exact rdH (fun _ _ h => h) mm0 | exact rdH (fun _ _ h => h) mm1 | exact rdH (fun _ _ h => h) mm2 | exact rdH (fun _ _ h => h) mm3 | exact rdH (fun _ _ h => h) mm4 | exact rdH (fun _ _ h => h) mm5 | exact rdH (fun _ _ h => h) mm6 | exact rdH (fun _ _ h => h) mm7 | exact rdH (fun _ _ h => h) mm8 | exact rdH (fun _ _ h => h) mm9 | exact rdH (fun _ _ h => h) mm10 | exact rdH (fun _ _ h => h) mm11 | exact deepH mm0 | exact deepH mm1 | exact deepH mm2 | exact deepH mm3 | exact deepH mm4 | exact deepH mm5 | exact deepH mm6 | exact deepH mm7 | exact deepH mm8 | exact deepH mm9 | exact deepH mm10 | exact deepH mm11) (by omega) (by omega)) ⟨rfl, rfl⟩) (by intros; rfl) (by intro y y2 h; rfl) ?_
     refine net_read (fun y => [Deep 22 (.sl 5 (.int .u8)) pl Ls.length Ls]) (fun y => [(67, _)]) (fun y => rfl) rfl (fun y => rfl) rfl (fun y FF hA => st_v (r_load (c := (Td.ec 22 (.sl 5 (.int .u8)))) V.s22 rfl (by first | exact own mm0 | exact own mm1 | exact own mm2 | exact own mm3 | exact own mm4 | exact own mm5 | exact own mm6 | exact own mm7 | exact own mm8 | exact own mm9 | exact own mm10 | exact own mm11 | exact rdH (fun _ _ h => h) mm0 | exact rdH (fun _ _ h => h) mm1 | exact rdH (fun _ _ h => h) mm2 | exact rdH (fun _ _ h => h) mm3 | exact rdH (fun _ _ h => h) mm4 | exact rdH (fun _ _ h => h) mm5 | exact rdH (fun _ _ h => h) mm6 | exact rdH (fun _ _ h => h) mm7 | exact rdH (fun _ _ h => h) mm8 | exact rdH (fun _ _ h => h) mm9 | exact rdH (fun _ _ h => h) mm10 | exact rdH (fun _ _ h => h) mm11 | exact deepH mm0 | exact deepH mm1 | exact deepH mm2 | exact deepH mm3 | exact deepH mm4 | exact deepH mm5 | exact deepH mm6 | exact deepH mm7 | exact deepH mm8 | exact deepH mm9 | exact deepH mm10 | exact deepH mm11) (by omega) (by omega) rfl rfl) ⟨rfl, rfl⟩) (by intros; rfl) (by intro y y2 h; rfl) ?_
     refine net_new (fun y v => .slice (slP v) (((InfP.blkI (Ls.map (fun x => x.l)) i).length + 5) + ((Td.ec 22 (.sl 5 (.int .u8))).g Ls (i : Int)).l.length) (slC v)) (fun y v => True) (fun y => [Row (U5) (slP (y 15)) ((InfP.blkI (Ls.map (fun x => x.l)) i).length + 5) (slC (y 15)) ((InfP.blkI (Ls.map (fun x => x.l)) i) ++ [0, ((((Td.ec 22 (.sl 5 (.int .u8))).g Ls (i : Int)).l.length : Int) % 256), ((((Td.ec 22 (.sl 5 (.int .u8))).g Ls (i : Int)).l.length : Int) / 256), (255 - (((Td.ec 22 (.sl 5 (.int .u8))).g Ls (i : Int)).l.length : Int) % 256), (255 - (((Td.ec 22 (.sl 5 (.int .u8))).g Ls (i : Int)).l.length : Int) / 256)])]) (fun y => [RdR U5 ((Td.ec 22 (.sl 5 (.int .u8))).g Ls (i : Int)).p ((Td.ec 22 (.sl 5 (.int .u8))).g Ls (i : Int)).l.length ((Td.ec 22 (.sl 5 (.int .u8))).g Ls (i : Int)).l]) (fun y v => [Row (U5) (slP v) (((InfP.blkI (Ls.map (fun x => x.l)) i).length + 5) + ((Td.ec 22 (.sl 5 (.int .u8))).g Ls (i : Int)).l.length) (slC v) (((InfP.blkI (Ls.map (fun x => x.l)) i) ++ [0, ((((Td.ec 22 (.sl 5 (.int .u8))).g Ls (i : Int)).l.length : Int) % 256), ((((Td.ec 22 (.sl 5 (.int .u8))).g Ls (i : Int)).l.length : Int) / 256), (255 - (((Td.ec 22 (.sl 5 (.int .u8))).g Ls (i : Int)).l.length : Int) % 256), (255 - (((Td.ec 22 (.sl 5 (.int .u8))).g Ls (i : Int)).l.length : Int) / 256)]) ++ ((Td.ec 22 (.sl 5 (.int .u8))).g Ls (i : Int)).l)]) (fun y => [(64, _), (68, _)]) (fun y => rfl) (fun y => rfl) (fun y => rfl) (fun y => rfl) (fun y FF hA => st_appN (r_appendX (c := (U5)) V.sl22 V.z5 rfl rfl rfl rfl rr0 (by first | exact own mm0 | exact own mm1 | exact own mm2 | exact own mm3 | exact own mm4 | exact own mm5 | exact own mm6 | exact own mm7 | exact own mm8 | exact own mm9 | exact own mm10 | exact own mm11 | exact rdH (fun _ _ h => h) mm0 | exact rdH (fun _ _ h => h) mm1 | exact rdH (fun _ _ h => h) mm2 | exact rdH (fun _ _ h => h) mm3 | exact rdH (fun _ _ h => h) mm4 | exact rdH (fun _ _ h => h) mm5 | exact rdH (fun _ _ h => h) mm6 | exact rdH (fun _ _ h => h) mm7 | exact rdH (fun _ _ h => h) mm8 | exact rdH (fun _ _ h => h) mm9 | exact rdH (fun _ _ h => h) mm10 | exact rdH (fun _ _ h => h) mm11 | exact deepH mm0 | exact deepH mm1 | exact deepH mm2 | exact deepH mm3 | exact deepH mm4 | exact deepH mm5 | exact deepH mm6 | exact deepH mm7 | exact deepH mm8 | exact deepH mm9 | exact deepH mm10 | exact deepH mm11) (by omega)) (.refl _)) (by intros; rfl) (by intros; rfl) (by intros; rfl) (by intro y y2 h; simp only [h 15 (.inr (by decide)), h 20 (.inl rfl)]) (by intro y y2 h; rfl) ?_
     refine net_pure (fun y => [(69, _)]) (fun y => rfl) rfl rfl rfl (fun y hA L => st_v (v_assign rfl) ⟨rfl, rfl⟩) (by intros; rfl) (by intro y y2 h; first | rfl | simp only [h 20 (.inr (by decide))]) ?_
     refine net_nil ?_
     intro y hA
     clear hA
     refine thn_n ?_
     refine w_keep _ (.cons (d := 0) rfl (.cons (d := 1) rfl (.cons (d := 5) rfl (.cons (d := 6) rfl (.cons (d := 7) rfl (.nil _)))))) ?_
     refine w_sub (M := RdR U5 ((Td.ec 22 (.sl 5 (.int .u8))).g Ls (i : Int)).p ((Td.ec 22 (.sl 5 (.int .u8))).g Ls (i : Int)).l.length ((Td.ec 22 (.sl 5 (.int .u8))).g Ls (i : Int)).l :: Row U5 pw (((Ls.map (fun x => x.l)).take i).flatten).length cw (((Ls.map (fun x => x.l)).take i).flatten) :: Deep 22 (.sl 5 (.int .u8)) pl Ls.length Ls :: Row (U5) (some ⟨(blk' (slP (y 14))), 0, none⟩) 5 5 [0, ((((Td.ec 22 (.sl 5 (.int .u8))).g Ls (i : Int)).l.length : Int) % 256), ((((Td.ec 22 (.sl 5 (.int .u8))).g Ls (i : Int)).l.length : Int) / 256), (255 - (((Td.ec 22 (.sl 5 (.int .u8))).g Ls (i : Int)).l.length : Int) % 256), (255 - (((Td.ec 22 (.sl 5 (.int .u8))).g Ls (i : Int)).l.length : Int) / 256)] :: Row (U5) (slP (y 20)) (((InfP.blkI (Ls.map (fun x => x.l)) i).length + 5) + ((Td.ec 22 (.sl 5 (.int .u8))).g Ls (i : Int)).l.length) (slC (y 20)) (((InfP.blkI (Ls.map (fun x => x.l)) i) ++ [0, ((((Td.ec 22 (.sl 5 (.int .u8))).g Ls (i : Int)).l.length : Int) % 256), ((((Td.ec 22 (.sl 5 (.int .u8))).g Ls (i : Int)).l.length : Int) / 256), (255 - (((Td.ec 22 (.sl 5 (.int .u8))).g Ls (i : Int)).l.length : Int) % 256), (255 - (((Td.ec 22 (.sl 5 (.int .u8))).g Ls (i : Int)).l.length : Int) / 256)]) ++ ((Td.ec 22 (.sl 5 (.int .u8))).g Ls (i : Int)).l) :: F) (fun _ _ h => h) ?_
     refine w_sub (sub .nil (.keep (.keep (.keep (.skip (.keep .refl)))))) ?_
     simp only [List.nil_append]
     generalize (blk' (slP (y 14))) = b63
     generalize (slP (y 15)) = p64
     generalize (slC (y 15)) = c64
     generalize (slP (y 20)) = p69
     generalize (slC (y 20)) = c69
     refine w_region ?_
     refine o_val (v_move rfl) rfl ?_
     refine o_val (v_move rfl) rfl ?_
     refine o_val (v_move rfl) rfl ?_
     refine o_val (r_index (c := (Td.ec 22 (.sl 5 (.int .u8)))) V.sl38 rfl rfl (by first | exact own mm0 | exact own mm1 | exact own mm2 | exact own mm3 | exact own mm4 | exact own mm5 | exact own mm6 | exact own mm7 | exact own mm8 | exact own mm9 | exact own mm10 | exact own mm11 | exact rdH (fun _ _ h => h) mm0 | exact rdH (fun _ _ h => h) mm1 | exact rdH (fun _ _ h => h) mm2 | exact rdH (fun _ _ h => h) mm3 | exact rdH (fun _ _ h => h) mm4 | exact rdH (fun _ _ h => h) mm5 | exact rdH (fun _ _ h => h) mm6 | exact rdH (fun _ _ h => h) mm7 | exact rdH (fun _ _ h => h) mm8 | exact rdH (fun _ _ h => h) mm9 | exact rdH (fun _ _ h => h) mm10 | exact rdH (fun _ _ h => h) mm11 | exact deepH mm0 | exact deepH mm1 | exact deepH mm2 | exact deepH mm3 | exact deepH mm4 | exact deepH mm5 | exact deepH mm6 | exact deepH mm7 | exact deepH mm8 | exact deepH mm9 | exact deepH mm10 | exact deepH mm11) (by omega) (by omega)) rfl ?_
     refine o_val (r_load (c := (Td.ec 22 (.sl 5 (.int .u8)))) V.s22 rfl (by first | exact own mm0 | exact own mm1 | exact own mm2 | exact own mm3 | exact own mm4 | exact own mm5 | exact own mm6 | exact own mm7 | exact own mm8 | exact own mm9 | exact own mm10 | exact own mm11 | exact rdH (fun _ _ h => h) mm0 | exact rdH (fun _ _ h => h) mm1 | exact rdH (fun _ _ h => h) mm2 | exact rdH (fun _ _ h => h) mm3 | exact rdH (fun _ _ h => h) mm4 | exact rdH (fun _ _ h => h) mm5 | exact rdH (fun _ _ h => h) mm6 | exact rdH (fun _ _ h => h) mm7 | exact rdH (fun _ _ h => h) mm8 | exact rdH (fun _ _ h => h) mm9 | exact rdH (fun _ _ h => h) mm10 | exact rdH (fun _ _ h => h) mm11 | exact deepH mm0 | exact deepH mm1 | exact deepH mm2 | exact deepH mm3 | exact deepH mm4 | exact deepH mm5 | exact deepH mm6 | exact deepH mm7 | exact deepH mm8 | exact deepH mm9 | exact deepH mm10 | exact deepH mm11) (by omega) (by omega) rfl rfl) rfl ?_
     refine r_append (c := (U5)) V.sl22 V.z5 rfl rfl rfl rfl (by repeat first | exact .head | apply Rem.tail) (by first | exact rdH (fun _ _ h => h) mm0 | exact rdH (fun _ _ h => h) mm1 | exact rdH (fun _ _ h => h) mm2 | exact rdH (fun _ _ h => h) mm3 | exact rdH (fun _ _ h => h) mm4 | exact rdH (fun _ _ h => h) mm5 | exact rdH (fun _ _ h => h) mm6 | exact rdH (fun _ _ h => h) mm7) (by omega) rfl ?_
     intro p75 c75
     refine o_val (v_assign rfl) rfl ?_
     refine o_nil ?_
     refine blk_n ?_
     refine thn_n ?_
     refine w_region ?_
     refine o_val (v_move rfl) rfl ?_
     refine o_val (v_add rfl rfl (wrapI (by omega) (by omega))) rfl ?_
     refine o_val (v_assign rfl) rfl ?_
     refine o_nil ?_
     first
     | (have hnx : InfP.blkI (Ls.map (fun x => x.l)) (i + 1) = _ := InfP.blkI_next (la := 1) hXL (by rw [if_pos (by omega)]); rw [show (InfP.blkI (Ls.map (fun x => x.l)) i) ++ [1, (((Td.ec 22 (.sl 5 (.int .u8))).g Ls (i : Int)).l.length : Int) % 256, (((Td.ec 22 (.sl 5 (.int .u8))).g Ls (i : Int)).l.length : Int) / 256, 255 - (((Td.ec 22 (.sl 5 (.int .u8))).g Ls (i : Int)).l.length : Int) % 256, 255 - (((Td.ec 22 (.sl 5 (.int .u8))).g Ls (i : Int)).l.length : Int) / 256] ++ ((Td.ec 22 (.sl 5 (.int .u8))).g Ls (i : Int)).l = InfP.blkI (Ls.map (fun x => x.l)) (i + 1) from hnx.symm, show (InfP.blkI (Ls.map (fun x => x.l)) i).length + 5 + ((Td.ec 22 (.sl 5 (.int .u8))).g Ls (i : Int)).l.length = (InfP.blkI (Ls.map (fun x => x.l)) (i + 1)).length from (by rw [hnx]; simp; omega), show (((Ls.map (fun x => x.l)).take i).flatten) ++ ((Td.ec 22 (.sl 5 (.int .u8))).g Ls (i : Int)).l = ((Ls.map (fun x => x.l)).take (i + 1)).flatten from (InfP.flat_next (by omega) hXL).symm, show (((Ls.map (fun x => x.l)).take i).flatten).length + ((Td.ec 22 (.sl 5 (.int .u8))).g Ls (i : Int)).l.length = ((Ls.map (fun x => x.l)).take (i + 1)).flatten.length from (by rw [InfP.flat_next (by omega) hXL]; simp)]; refine j5 (i + 1) _ _ _ _ ?_ (.cons rfl (.cons rfl (.cons rfl (.cons rfl (.cons rfl (.nil _)))))) (sub (.cons (by repeat first | exact .head | apply Rem.tail) (.cons (by repeat first | exact .head | apply Rem.tail) (.cons (by repeat first | exact .head | apply Rem.tail) .nil))) (by repeat first | exact .refl | apply Drop.skip)); exact ⟨hbk.next (by omega) hXL (by omega) hxb, by omega⟩)
     | (have hnx : InfP.blkI (Ls.map (fun x => x.l)) (i + 1) = _ := InfP.blkI_next (la := 0) hXL (by rw [if_neg (by omega)]); rw [show (InfP.blkI (Ls.map (fun x => x.l)) i) ++ [0, (((Td.ec 22 (.sl 5 (.int .u8))).g Ls (i : Int)).l.length : Int) % 256, (((Td.ec 22 (.sl 5 (.int .u8))).g Ls (i : Int)).l.length : Int) / 256, 255 - (((Td.ec 22 (.sl 5 (.int .u8))).g Ls (i : Int)).l.length : Int) % 256, 255 - (((Td.ec 22 (.sl 5 (.int .u8))).g Ls (i : Int)).l.length : Int) / 256] ++ ((Td.ec 22 (.sl 5 (.int .u8))).g Ls (i : Int)).l = InfP.blkI (Ls.map (fun x => x.l)) (i + 1) from hnx.symm, show (InfP.blkI (Ls.map (fun x => x.l)) i).length + 5 + ((Td.ec 22 (.sl 5 (.int .u8))).g Ls (i : Int)).l.length = (InfP.blkI (Ls.map (fun x => x.l)) (i + 1)).length from (by rw [hnx]; simp; omega), show (((Ls.map (fun x => x.l)).take i).flatten) ++ ((Td.ec 22 (.sl 5 (.int .u8))).g Ls (i : Int)).l = ((Ls.map (fun x => x.l)).take (i + 1)).flatten from (InfP.flat_next (by omega) hXL).symm, show (((Ls.map (fun x => x.l)).take i).flatten).length + ((Td.ec 22 (.sl 5 (.int .u8))).g Ls (i : Int)).l.length = ((Ls.map (fun x => x.l)).take (i + 1)).flatten.length from (by rw [InfP.flat_next (by omega) hXL]; simp)]; refine j5 (i + 1) _ _ _ _ ?_ (.cons rfl (.cons rfl (.cons rfl (.cons rfl (.cons rfl (.nil _)))))) (sub (.cons (by repeat first | exact .head | apply Rem.tail) (.cons (by repeat first | exact .head | apply Rem.tail) (.cons (by repeat first | exact .head | apply Rem.tail) .nil))) (by repeat first | exact .refl | apply Drop.skip)); exact ⟨hbk.next (by omega) hXL (by omega) hxb, by omega⟩)
  ·
   refine w_exit ?_
   refine thn_e ?_
   refine thn_e ?_
   refine blk_x ?_
   refine thn_n ?_
   refine w_seq ?_
   have hil : i = (Ls.map (fun x => x.l)).length := by omega
   have hrt := hbk.res hil (by omega) (t := [less]) (fun x hx => by rw [List.mem_singleton.1 hx]; exact hle)
   have hst := hbk.res hil (by omega) (t := []) (fun x hx => by cases hx)
   rw [List.append_nil] at hst
   obtain ⟨hr1, _, hrb⟩ := hrt
   obtain ⟨_, hs2, hsb⟩ := hst
   have hw1 := hbk.wlen
   have hw2 := hbk.blen
   have hbi : InfP.blkI (Ls.map (fun x => x.l)) i = (InfP.blks (Ls.map (fun x => x.l))) := by rw [hil]; exact InfP.blkI_all _
   have hwi : ((Ls.map (fun x => x.l)).take i).flatten = ((Ls.map (fun x => x.l)).flatten) := by rw [hil, List.take_length]
   rw [hbi] at hw2
   rw [hwi] at hw1
   rw [hbi, hwi]
   have hbl : ((InfP.blks (Ls.map (fun x => x.l))) ++ [less]).length = (InfP.blks (Ls.map (fun x => x.l))).length + 1 := by simp
   refine w_region ?_
   refine r_build (U5) [] V.sl22 V.z5 rfl rfl rfl rfl rfl rfl ?_
   intro b77
   refine o_val (v_move rfl) rfl ?_
   refine r_append (c := (U5)) V.sl22 V.z5 rfl rfl rfl rfl (by repeat first | exact .head | apply Rem.tail) (by first | exact own mm0 | exact own mm1 | exact own mm2 | exact own mm3 | exact own mm4 | exact own mm5 | exact own mm6 | exact own mm7 | exact own mm8 | exact own mm9 | exact own mm10 | exact own mm11 | exact rdH (fun _ _ h => h) mm0 | exact rdH (fun _ _ h => h) mm1 | exact rdH (fun _ _ h => h) mm2 | exact rdH (fun _ _ h => h) mm3 | exact rdH (fun _ _ h => h) mm4 | exact rdH (fun _ _ h => h) mm5 | exact rdH (fun _ _ h => h) mm6 | exact rdH (fun _ _ h => h) mm7 | exact rdH (fun _ _ h => h) mm8 | exact rdH (fun _ _ h => h) mm9 | exact rdH (fun _ _ h => h) mm10 | exact rdH (fun _ _ h => h) mm11 | exact deepH mm0 | exact deepH mm1 | exact deepH mm2 | exact deepH mm3 | exact deepH mm4 | exact deepH mm5 | exact deepH mm6 | exact deepH mm7 | exact deepH mm8 | exact deepH mm9 | exact deepH mm10 | exact deepH mm11) (by omega) rfl ?_
   intro p79 c79
   refine o_val (v_move rfl) rfl ?_
   refine r_build (U5) [less] V.sl22 V.z5 rfl rfl rfl rfl rfl rfl ?_
   intro b81
   refine r_append (c := (U5)) V.sl22 V.z5 rfl rfl rfl rfl (by repeat first | exact .head | apply Rem.tail) (by first | exact own mm0 | exact own mm1 | exact own mm2 | exact own mm3 | exact own mm4 | exact own mm5 | exact own mm6 | exact own mm7 | exact own mm8 | exact own mm9 | exact own mm10 | exact own mm11 | exact rdH (fun _ _ h => h) mm0 | exact rdH (fun _ _ h => h) mm1 | exact rdH (fun _ _ h => h) mm2 | exact rdH (fun _ _ h => h) mm3 | exact rdH (fun _ _ h => h) mm4 | exact rdH (fun _ _ h => h) mm5 | exact rdH (fun _ _ h => h) mm6 | exact rdH (fun _ _ h => h) mm7 | exact rdH (fun _ _ h => h) mm8 | exact rdH (fun _ _ h => h) mm9 | exact rdH (fun _ _ h => h) mm10 | exact rdH (fun _ _ h => h) mm11 | exact deepH mm0 | exact deepH mm1 | exact deepH mm2 | exact deepH mm3 | exact deepH mm4 | exact deepH mm5 | exact deepH mm6 | exact deepH mm7 | exact deepH mm8 | exact deepH mm9 | exact deepH mm10 | exact deepH mm11) (by omega) rfl ?_
   intro p82 c82
   refine o_val (v_move rfl) rfl ?_
   refine o_val (v_len (ty' := 0) Try.underlying22 rfl) rfl ?_
   rw [show 0 + (InfP.blks (Ls.map (fun x => x.l))).length + 1 = ((InfP.blks (Ls.map (fun x => x.l))) ++ [less]).length from by rw [hbl, Nat.zero_add]]
   refine o_call (c_all p82 c82 ((InfP.blks (Ls.map (fun x => x.l))) ++ [less]) (Row U5 p82 ((InfP.blks (Ls.map (fun x => x.l))) ++ [less]).length c82 ((InfP.blks (Ls.map (fun x => x.l))) ++ [less])) (fun _ _ hh => hh.rd) (by omega) hrb (((Ls.map (fun x => x.l)).flatten).length : Int) (by omega) (((Ls.map (fun x => x.l)).flatten), ((InfP.blks (Ls.map (fun x => x.l))).length : Int), (0 : Int)) hr1) V.b11  rfl (.cons (by repeat first | exact .head | apply Rem.tail) .nil) rfl ?_
   rintro _ _ ⟨q85, c85, rfl, rfl⟩
   refine o_val (v_move rfl) rfl ?_
   refine o_val (v_extract rfl rfl) rfl ?_
   refine o_val (v_extract rfl rfl) rfl ?_
   refine o_val (v_extract rfl rfl) rfl ?_
   refine o_val (v_assign rfl) rfl ?_
   refine o_val (v_assign rfl) rfl ?_
   refine o_val (v_assign rfl) rfl ?_
   refine o_nil ?_
   refine thn_n ?_
   refine w_seq ?_
   refine w_seq ?_
   refine w_region ?_
   refine o_val (v_move rfl) rfl ?_
   refine o_val (v_F (v_neq rfl rfl) (fun h => h rfl)) rfl ?_
   refine o_val (v_move rfl) rfl ?_
   refine o_want rfl ?_
   refine o_val (v_move rfl) rfl ?_
   refine o_want rfl ?_
   refine o_val (v_move rfl) rfl ?_
   refine o_want rfl ?_
   refine o_val (v_len (ty' := 0) Try.underlying22 rfl) rfl ?_
   refine o_want rfl ?_
   refine o_val (v_F (v_neq rfl rfl) (fun h => h rfl)) rfl ?_
   refine o_val (v_pickF rfl rfl) rfl ?_
   refine o_val (v_move rfl) rfl ?_
   refine o_want rfl ?_
   refine o_val (v_move rfl) rfl ?_
   refine o_want rfl ?_
   refine o_val (v_str (T := 5) Try.underlying22 Try.underlying5 Try.underlying9 rfl (own (by repeat first | exact .head _ | apply List.Mem.tail))) rfl ?_
   refine o_want rfl ?_
   refine o_val (v_move rfl) rfl ?_
   refine o_want rfl ?_
   refine o_val (v_str (T := 5) Try.underlying22 Try.underlying5 Try.underlying9 rfl (own (by repeat first | exact .head _ | apply List.Mem.tail))) rfl ?_
   refine o_want rfl ?_
   refine o_val (v_sneself rfl rfl) rfl ?_
   refine o_val (v_pickF rfl rfl) rfl ?_
   refine o_nil ?_
   refine thn_n ?_
   refine w_condF rfl ?_
   refine w_skip ?_
   refine thn_n ?_
   refine w_seq ?_
   refine w_region ?_
   refine o_val (v_move rfl) rfl ?_
   refine o_val (v_conv V.u5 Try.underlying3 rfl (wrapI (by omega) (by omega))) rfl ?_
   refine o_val (v_rem rfl rfl (by omega) (remI (by omega))) rfl ?_
   refine o_val (v_add rfl rfl (wrapI (by omega) (by omega))) rfl ?_
   refine o_val (v_assign rfl) rfl ?_
   refine o_nil ?_
   refine thn_n ?_
   refine w_seq ?_
   refine w_seq ?_
   refine w_region ?_
   refine o_val (v_move rfl) rfl ?_
   refine o_val (v_move rfl) rfl ?_
   refine o_val (v_len (ty' := 0) Try.underlying22 rfl) rfl ?_
   refine o_val (v_gtr rfl rfl) rfl ?_
   refine o_nil ?_
   refine thn_n ?_
   first | refine w_condD rfl (fun h111 => ?_) (fun h111 => ?_) | refine w_cond rfl (fun h111 => ?_) (fun h111 => ?_)
   ·
    refine w_seq ?_
    refine w_region ?_
    refine o_val (v_assign rfl) rfl ?_
    refine o_nil ?_
    refine thn_n ?_
    refine w_ret ?_
    refine (thn_r ?_)
    exact ret_ok (G := [Deep 22 (.sl 5 (.int .u8)) pl Ls.length Ls]) (res1 rfl) ⟨rfl, rfl⟩ (sub (.cons (by repeat first | exact .head | apply Rem.tail) .nil) (by repeat first | exact .refl | apply Drop.skip))
   ·
    refine w_skip ?_
    refine thn_n ?_
    refine w_seq ?_
    refine w_region ?_
    refine o_val (v_move rfl) rfl ?_
    refine o_val (v_move rfl) rfl ?_
    refine o_val (v_len (ty' := 0) Try.underlying22 rfl) rfl ?_
    refine o_val (v_move rfl) rfl ?_
    refine o_val (v_sub rfl rfl (wrapI (by omega) (by omega))) rfl ?_
    refine o_call (c_all pb cb (InfP.blks (Ls.map (fun x => x.l))) (Row U5 pb (InfP.blks (Ls.map (fun x => x.l))).length cb (InfP.blks (Ls.map (fun x => x.l)))) (fun _ _ hh => hh.rd) (by omega) hsb ((((Ls.map (fun x => x.l)).flatten).length : Int) - (1 + less % 20)) (by omega) (([] : List Int), (0 : Int), (6 : Int)) (hs2 _ (by omega) (by omega))) V.b11  rfl (.cons (by repeat first | exact .head | apply Rem.tail) .nil) rfl ?_
    rintro _ _ ⟨q118, c118, rfl, rfl⟩
    refine o_val (v_move rfl) rfl ?_
    refine o_val (v_extract rfl rfl) rfl ?_
    refine o_val (v_extract rfl rfl) rfl ?_
    refine o_val (v_extract rfl rfl) rfl ?_
    refine o_val (v_assign rfl) rfl ?_
    refine o_val (v_assign rfl) rfl ?_
    refine o_val (v_assign rfl) rfl ?_
    refine o_nil ?_
    refine thn_n ?_
    refine w_seq ?_
    refine w_region ?_
    refine o_val (v_move rfl) rfl ?_
    refine o_val (v_T (v_eql rfl rfl) rfl) rfl ?_
    refine o_val (v_move rfl) rfl ?_
    refine o_want rfl ?_
    refine o_val (v_move rfl) rfl ?_
    refine o_want rfl ?_
    refine o_val (v_len (ty' := 0) Try.underlying22 rfl) rfl ?_
    refine o_want rfl ?_
    refine o_val (v_T (v_eql rfl rfl) rfl) rfl ?_
    refine o_val (v_pickT rfl rfl) rfl ?_
    refine o_val (v_move rfl) rfl ?_
    refine o_want rfl ?_
    refine o_val (v_move rfl) rfl ?_
    refine o_want rfl ?_
    refine o_val (v_T (v_eql rfl rfl) rfl) rfl ?_
    refine o_val (v_pickT rfl rfl) rfl ?_
    refine o_val (v_assign rfl) rfl ?_
    refine o_nil ?_
    refine thn_n ?_
    refine w_ret ?_
    exact ret_ok (G := [Deep 22 (.sl 5 (.int .u8)) pl Ls.length Ls]) (res1 rfl) ⟨rfl, rfl⟩ (sub (.cons (by repeat first | exact .head | apply Rem.tail) .nil) (by repeat first | exact .refl | apply Drop.skip))
 ·
  refine w_seq ?_
  refine w_seq ?_
  refine w_region ?_
  refine o_val (v_move rfl) rfl ?_
  refine o_val (v_len (ty' := 0) Try.underlying38 rfl) rfl ?_
  refine o_val (v_F (v_gtr rfl rfl) (by omega)) rfl ?_
  refine o_val (v_move rfl) rfl ?_
  refine o_want rfl ?_
  refine o_val (v_move rfl) rfl ?_
  refine o_want rfl ?_
  refine o_val (v_len (ty' := 0) Try.underlying38 rfl) rfl ?_
  refine o_want rfl ?_
  refine o_val (v_T (v_eql rfl rfl) (by omega)) rfl ?_
  refine o_val (v_pickF rfl rfl) rfl ?_
  refine o_nil ?_
  refine thn_n ?_
  refine w_condT rfl ?_
  refine w_seq ?_
  refine w_region ?_
  refine o_val (v_assign rfl) rfl ?_
  refine o_nil ?_
  refine thn_n ?_
  refine w_ret ?_
  refine (thn_r ?_)
  exact ret_ok (G := [Deep 22 (.sl 5 (.int .u8)) pl Ls.length Ls]) (res1 rfl) ⟨rfl, rfl⟩ (sub (.cons (by repeat first | exact .head | apply Rem.tail) .nil) (by repeat first | exact .refl | apply Drop.skip))
 ·
  refine w_seq ?_
  refine w_seq ?_
  refine w_region ?_
  refine o_val (v_move rfl) rfl ?_
  refine o_val (v_len (ty' := 0) Try.underlying38 rfl) rfl ?_
  refine o_val (v_T (v_gtr rfl rfl) (by omega)) rfl ?_
  refine o_val (v_move rfl) rfl ?_
  refine o_pass rfl rfl rfl ?_
  refine o_pass rfl rfl rfl ?_
  refine o_pass rfl rfl rfl ?_
  refine o_val (v_pickT rfl rfl) rfl ?_
  refine o_nil ?_
  refine thn_n ?_
  refine w_condT rfl ?_
  refine w_seq ?_
  refine w_region ?_
  refine o_val (v_assign rfl) rfl ?_
  refine o_nil ?_
  refine thn_n ?_
  refine w_ret ?_
  refine (thn_r ?_)
  exact ret_ok (G := [Deep 22 (.sl 5 (.int .u8)) pl Ls.length Ls]) (res1 rfl) ⟨rfl, rfl⟩ (sub (.cons (by repeat first | exact .head | apply Rem.tail) .nil) (by repeat first | exact .refl | apply Drop.skip))
end Go.Proofs.Ytoplcgkafaoafaa

/-
 Steps of the proof: walks of functions that the statement reaches; printed by a program of ours.
-/
import Derived.Test.YtoplcgkafaoafaaInfR
import Derived.Test.YtoplcgkafaoafaaM37
namespace Go.Proofs.Ytoplcgkafaoafaa
open Go.Sl 
set_option linter.unusedVariables false
set_option linter.unusedSimpArgs false

attribute [local irreducible] HuffP.newE HuffP.tk HuffP.ord HuffP.cntL HuffP.words HuffP.mostL InfP.frs InfP.toldC InfP.toldN InfP.toldA InfP.hL InfP.hD InfP.hC InfP.lnGo InfP.told InfP.fixL InfP.codeE InfP.rep InfP.lenE InfP.awayE InfP.sym InfP.alg BitP.numL InfP.coded InfP.begin_ InfP.put_


theorem c_putO (b bl : Nat) (sz mo : Int) (po : Option Addr) (co : Nat) (li di : Value) (s : InfP.St) (yb : Int) (hy : 0 ≤ yb ∧ yb < 256) (hm : mo < 1000000000) : Ctr Try.prog 41 [.pointer (some ⟨b, 0, none⟩), .int .u8 yb] [Cel b 67 [.pointer (some ⟨bl, 0, none⟩), .int .i64 sz, .int .i64 mo, .slice po s.out.length co, .bool s.ended, .int .i64 0, .int .i64 s.kind, .int .i64 (s.left : Int), .bool s.last, li, di, .int .i64 (s.copies : Int), .int .i64 (s.far : Int)], Row U5 po s.out.length co s.out] (PostE (InfP.put_ mo s yb) (fun s2 v G => v = .tuple #[] ∧ G = [MS b bl sz mo li di s2]) [MX b bl sz mo]) :=
 Ctr.fold (c_put1 b bl sz mo li di s yb hy hm) (fun w0 h hh => ms_close rfl hh)


set_option maxHeartbeats 4000000 in
set_option maxRecDepth 100000 in
theorem c_coded (b bl : Nat) (sz mo : Int) (l d : Nat) (s : InfP.St) (B : List Int) (hl : B.length < 500000000) (hB : BitP.Byt B) (hm : mo < 1000000000) (hok : InfP.Ok B mo s) (hk : 0 < s.kind) : Ctr Try.prog 43 [.pointer (some ⟨b, 0, none⟩)] [MS b bl sz mo (.pointer (some ⟨l, 0, none⟩)) (.pointer (some ⟨d, 0, none⟩)) s, LW bl B s.at_ [] 0, HC l s.lits, HC d s.dist] (PostE (InfP.coded B mo s) (fun s2 v G => v = .tuple #[] ∧ G = [MM b bl sz mo B s2]) [MX b bl sz mo]) := by
 refine spec_of [(0, _)] Try.func43 rfl Try.ntmps43 rfl rfl ?_
 intro w0 F
 refine w_opn (fun h hh => hh) ?_
 rintro ⟨po, co⟩ _
 dsimp only
 obtain ⟨hE1, hE2, hz1, hz2⟩ := hok.codes hk
 have ha := hok.at_
 have hll := InfP.code_len hE1
 have hro := hok.room
 rcases (InfP.sym_or (B := B) (ls := s.lits) (a := s.at_) hE1 hz1) with ⟨e, hs⟩ | ⟨sy, a1, hs, hy0, hy1, ha0, ha1⟩
 ·
  refine w_seq ?_
  refine w_net [⟨[], [], [0], 0, 0⟩, ⟨[0], [0], [], 0, 0⟩, ⟨[0, 1], [1], [], 0, 0⟩, ⟨[0, 1, 2], [2], [], 0, 0⟩, ⟨[], [], [0], 0, 0⟩, ⟨[4], [4], [], 0, 0⟩, ⟨[4, 5], [5], [], 0, 0⟩, ⟨[4, 5, 6], [6], [], 0, 0⟩, ⟨[0, 1, 2, 3, 4, 5, 6, 7], [3, 7], [], 0, 0⟩, ⟨[0, 1, 2, 3, 4, 5, 6, 7, 8], [8], [], 0, 0⟩] [⟨fun y => Cel b 67 [.pointer (some ⟨bl, 0, none⟩), .int .i64 sz, .int .i64 mo, .slice po s.out.length co, .bool s.ended, .int .i64 0, .int .i64 s.kind, .int .i64 (s.left : Int), .bool s.last, (.pointer (some ⟨l, 0, none⟩)), (.pointer (some ⟨d, 0, none⟩)), .int .i64 (s.copies : Int), .int .i64 (s.far : Int)], none, none, [3, 7, 8]⟩, ⟨fun y => Row U5 po s.out.length co s.out, none, none, []⟩, ⟨fun y => LW bl B s.at_ [] 0, none, none, [8]⟩, ⟨fun y => HC l s.lits, none, none, [8]⟩, ⟨fun y => HC d s.dist, none, none, []⟩] F V.mixed (by kernel_rfl) rfl (fun _ => .refl _) (locT_0 _ (locT_0 _ (locT_0 _ (locT_0 _ (locT_0 _ locT_nil))))) ?_
  refine net_pure (fun y => [(0, _)]) (fun y => rfl) rfl rfl rfl (fun y hA L => st_v (v_move rfl) ⟨rfl, rfl⟩) (by intros; rfl) (by intro y y2 h; rfl) ?_
  refine net_pure (fun y => [(3, _)]) (fun y => rfl) rfl rfl rfl (fun y hA L => st_v (v_nil rfl) ⟨rfl, rfl⟩) (by intros; rfl) (by intro y y2 h; rfl) ?_
  refine net_pure (fun y => [(4, _)]) (fun y => rfl) rfl rfl rfl (fun y hA L => st_v (v_fieldAddr V.f67_9 rfl) ⟨rfl, rfl⟩) (by intros; rfl) (by intro y y2 h; rfl) ?_
  refine net_read (fun y => [Cel b 67 [.pointer (some ⟨bl, 0, none⟩), .int .i64 sz, .int .i64 mo, .slice po s.out.length co, .bool s.ended, .int .i64 0, .int .i64 s.kind, .int .i64 (s.left : Int), .bool s.last, (.pointer (some ⟨l, 0, none⟩)), (.pointer (some ⟨d, 0, none⟩)), .int .i64 (s.copies : Int), .int .i64 (s.far : Int)]]) (fun y => [(5, _)]) (fun y => rfl) rfl (fun y => rfl) rfl (fun y FF hA => st_v (v_load V.s65 rfl (by repeat first | exact .head _ | apply List.Mem.tail) rfl) ⟨rfl, rfl⟩) (by intros; rfl) (by intro y y2 h; rfl) ?_
  refine net_pure (fun y => [(0, _)]) (fun y => rfl) rfl rfl rfl (fun y hA L => st_v (v_move rfl) ⟨rfl, rfl⟩) (by intros; rfl) (by intro y y2 h; rfl) ?_
  refine net_pure (fun y => [(7, _)]) (fun y => rfl) rfl rfl rfl (fun y hA L => st_v (v_nil rfl) ⟨rfl, rfl⟩) (by intros; rfl) (by intro y y2 h; rfl) ?_
  refine net_pure (fun y => [(8, _)]) (fun y => rfl) rfl rfl rfl (fun y hA L => st_v (v_fieldAddr V.f67_0 rfl) ⟨rfl, rfl⟩) (by intros; rfl) (by intro y y2 h; rfl) ?_
  refine net_read (fun y => [Cel b 67 [.pointer (some ⟨bl, 0, none⟩), .int .i64 sz, .int .i64 mo, .slice po s.out.length co, .bool s.ended, .int .i64 0, .int .i64 s.kind, .int .i64 (s.left : Int), .bool s.last, (.pointer (some ⟨l, 0, none⟩)), (.pointer (some ⟨d, 0, none⟩)), .int .i64 (s.copies : Int), .int .i64 (s.far : Int)]]) (fun y => [(9, _)]) (fun y => rfl) rfl (fun y => rfl) rfl (fun y FF hA => st_v (v_load V.s63 rfl (by repeat first | exact .head _ | apply List.Mem.tail) rfl) ⟨rfl, rfl⟩) (by intros; rfl) (by intro y y2 h; rfl) ?_
  refine net_pan (undef) (fun y => [Cel b 67 [.pointer (some ⟨bl, 0, none⟩), .int .i64 sz, .int .i64 mo, .slice po s.out.length co, .bool s.ended, .int .i64 0, .int .i64 s.kind, .int .i64 (s.left : Int), .bool s.last, (.pointer (some ⟨l, 0, none⟩)), (.pointer (some ⟨d, 0, none⟩)), .int .i64 (s.copies : Int), .int .i64 (s.far : Int)], LW bl B s.at_ [] 0, HC l s.lits]) (fun y => [(6, _), (10, _)]) (fun y => rfl) rfl (fun y => rfl) (fun y FF hA => st_callE ((c_sym l s.lits bl B s.at_ [] 0 hE1 hl hB ha).err hs) V.b51 rfl (.cons (by repeat first | exact .head | apply Rem.tail) (.cons (by repeat first | exact .head | apply Rem.tail) .nil)) (by rintro _ _ ⟨hp, rfl⟩; exact x_pe (InfP.cod_e hs) hp (fold' (.cons (by repeat first | exact .head | apply Rem.tail) .nil) (by first | exact dp0 (M := FF) (F := F) | exact dp1 (M := FF) (F := F) | exact dp2 (M := FF) (F := F) | exact dp3 (M := FF) (F := F) | exact dp4 (M := FF) (F := F) | exact dp5 (M := FF) (F := F) | exact dp6 (M := FF) (F := F) | exact dp7 (M := FF) (F := F) | exact dp8 (M := FF) (F := F) | exact dp9 (M := FF) (F := F)) (fun w0 h hh => mx_close hh)))) ?_
  refine net_pan (.bool true) (fun y => []) (fun y => [(11, _)]) (fun y => rfl) rfl (fun y => rfl) (fun y FF hA => (KnN.fact (hA 8 (by decide)) (q := fun _ => False) rfl).elim) ?_
  refine net_nil ?_
  intro y hA
  exact (KnN.fact (hA 8 (by exact Nat.le_of_ble_eq_true rfl)) (q := fun _ => False) rfl).elim
 ·
  refine w_seq ?_
  refine w_net [⟨[], [], [0], 0, 0⟩, ⟨[0], [0], [], 0, 0⟩, ⟨[0, 1], [1], [], 0, 0⟩, ⟨[0, 1, 2], [2], [], 0, 0⟩, ⟨[], [], [0], 0, 0⟩, ⟨[4], [4], [], 0, 0⟩, ⟨[4, 5], [5], [], 0, 0⟩, ⟨[4, 5, 6], [6], [], 0, 0⟩, ⟨[0, 1, 2, 3, 4, 5, 6, 7], [3, 7], [], 0, 0⟩, ⟨[0, 1, 2, 3, 4, 5, 6, 7, 8], [8], [], 0, 0⟩] [⟨fun y => Cel b 67 [.pointer (some ⟨bl, 0, none⟩), .int .i64 sz, .int .i64 mo, .slice po s.out.length co, .bool s.ended, .int .i64 0, .int .i64 s.kind, .int .i64 (s.left : Int), .bool s.last, (.pointer (some ⟨l, 0, none⟩)), (.pointer (some ⟨d, 0, none⟩)), .int .i64 (s.copies : Int), .int .i64 (s.far : Int)], none, none, [3, 7]⟩, ⟨fun y => Row U5 po s.out.length co s.out, none, none, []⟩, ⟨fun y => LW bl B s.at_ [] 0, none, some 8, []⟩, ⟨fun y => HC l s.lits, none, some 8, []⟩, ⟨fun y => HC d s.dist, none, none, []⟩, ⟨fun y => HC l s.lits, some 8, none, []⟩, ⟨fun y => LW bl B a1 [] 0, some 8, none, []⟩] F V.mixed (by kernel_rfl) rfl (fun _ => .refl _) (locT_0 _ (locT_0 _ (locT_0 _ (locT_0 _ (locT_0 _ (locT_1 [0, 1, 2, 3, 4, 5, 6, 7] rfl (by intro y y2 h; rfl) (locT_1 [0, 1, 2, 3, 4, 5, 6, 7] rfl (by intro y y2 h; rfl) locT_nil))))))) ?_
  refine net_pure (fun y => [(0, _)]) (fun y => rfl) rfl rfl rfl (fun y hA L => st_v (v_move rfl) ⟨rfl, rfl⟩) (by intros; rfl) (by intro y y2 h; rfl) ?_
  refine net_pure (fun y => [(3, _)]) (fun y => rfl) rfl rfl rfl (fun y hA L => st_v (v_nil rfl) ⟨rfl, rfl⟩) (by intros; rfl) (by intro y y2 h; rfl) ?_
  refine net_pure (fun y => [(4, _)]) (fun y => rfl) rfl rfl rfl (fun y hA L => st_v (v_fieldAddr V.f67_9 rfl) ⟨rfl, rfl⟩) (by intros; rfl) (by intro y y2 h; rfl) ?_
  refine net_read (fun y => [Cel b 67 [.pointer (some ⟨bl, 0, none⟩), .int .i64 sz, .int .i64 mo, .slice po s.out.length co, .bool s.ended, .int .i64 0, .int .i64 s.kind, .int .i64 (s.left : Int), .bool s.last, (.pointer (some ⟨l, 0, none⟩)), (.pointer (some ⟨d, 0, none⟩)), .int .i64 (s.copies : Int), .int .i64 (s.far : Int)]]) (fun y => [(5, _)]) (fun y => rfl) rfl (fun y => rfl) rfl (fun y FF hA => st_v (v_load V.s65 rfl (by repeat first | exact .head _ | apply List.Mem.tail) rfl) ⟨rfl, rfl⟩) (by intros; rfl) (by intro y y2 h; rfl) ?_
  refine net_pure (fun y => [(0, _)]) (fun y => rfl) rfl rfl rfl (fun y hA L => st_v (v_move rfl) ⟨rfl, rfl⟩) (by intros; rfl) (by intro y y2 h; rfl) ?_
  refine net_pure (fun y => [(7, _)]) (fun y => rfl) rfl rfl rfl (fun y hA L => st_v (v_nil rfl) ⟨rfl, rfl⟩) (by intros; rfl) (by intro y y2 h; rfl) ?_
  refine net_pure (fun y => [(8, _)]) (fun y => rfl) rfl rfl rfl (fun y hA L => st_v (v_fieldAddr V.f67_0 rfl) ⟨rfl, rfl⟩) (by intros; rfl) (by intro y y2 h; rfl) ?_
  refine net_read (fun y => [Cel b 67 [.pointer (some ⟨bl, 0, none⟩), .int .i64 sz, .int .i64 mo, .slice po s.out.length co, .bool s.ended, .int .i64 0, .int .i64 s.kind, .int .i64 (s.left : Int), .bool s.last, (.pointer (some ⟨l, 0, none⟩)), (.pointer (some ⟨d, 0, none⟩)), .int .i64 (s.copies : Int), .int .i64 (s.far : Int)]]) (fun y => [(9, _)]) (fun y => rfl) rfl (fun y => rfl) rfl (fun y FF hA => st_v (v_load V.s63 rfl (by repeat first | exact .head _ | apply List.Mem.tail) rfl) ⟨rfl, rfl⟩) (by intros; rfl) (by intro y y2 h; rfl) ?_
  refine net_eff (fun y => [LW bl B s.at_ [] 0, HC l s.lits]) (fun y => []) (fun y => [HC l s.lits, LW bl B a1 [] 0]) (fun y => [(6, _), (10, _)]) (fun y => rfl) (fun y => rfl) (fun y => rfl) (fun y => rfl) (fun y FF hA => st_callN (Post := [HC l s.lits, LW bl B a1 [] 0]) ((c_sym l s.lits bl B s.at_ [] 0 hE1 hl hB ha).ok hs) V.b51 rfl (.cons (by repeat first | exact .head | apply Rem.tail) (.cons (by repeat first | exact .head | apply Rem.tail) .nil)) (fun v G h => by rcases h with ⟨rfl, rfl⟩; exact ⟨rfl, .refl _⟩)) (by intros; rfl) (by intros; rfl) (by intro y y2 h; rfl) ?_
  refine net_pure (fun y => [(11, _)]) (fun y => rfl) rfl rfl rfl (fun y hA L => st_v (v_assign rfl) ⟨rfl, rfl⟩) (by intros; rfl) (by intro y y2 h; rfl) ?_
  refine net_nil ?_
  intro y hA
  clear hA
  refine thn_n ?_
  refine w_keep _ (.cons (d := 0) rfl (.cons (d := 2) rfl (.nil _))) ?_
  refine w_sub (M := Cel b 67 [.pointer (some ⟨bl, 0, none⟩), .int .i64 sz, .int .i64 mo, .slice po s.out.length co, .bool s.ended, .int .i64 0, .int .i64 s.kind, .int .i64 (s.left : Int), .bool s.last, (.pointer (some ⟨l, 0, none⟩)), (.pointer (some ⟨d, 0, none⟩)), .int .i64 (s.copies : Int), .int .i64 (s.far : Int)] :: Row U5 po s.out.length co s.out :: HC d s.dist :: HC l s.lits :: LW bl B a1 [] 0 :: F) (fun _ _ h => h) ?_
  refine w_block ?_
  refine w_seq ?_
  refine w_region ?_
  refine o_val (v_move rfl) rfl ?_
  refine o_val (v_lss rfl rfl) rfl ?_
  refine o_val (v_assign rfl) rfl ?_
  refine o_nil ?_
  refine thn_n ?_
  first | refine w_condD rfl (fun h36 => ?_) (fun h36 => ?_) | refine w_cond rfl (fun h36 => ?_) (fun h36 => ?_)
  ·
   rcases (InfP.ex_or (InfP.put_ mo { s with at_ := a1 } sy)) with ⟨e, hp⟩ | ⟨s2, hp⟩
   ·
    refine w_region ?_
    refine o_val (v_move rfl) rfl ?_
    refine o_val (v_move rfl) rfl ?_
    refine o_val (v_conv V.u3 Try.underlying5 rfl (wrap8 (by omega) (by omega))) rfl ?_
    refine o_callE ((c_putO b bl sz mo po co (.pointer (some ⟨l, 0, none⟩)) (.pointer (some ⟨d, 0, none⟩)) { s with at_ := a1 } sy (by omega) hm).err hp) V.b41 rfl (.cons (by repeat first | exact .head | apply Rem.tail) (.cons (by repeat first | exact .head | apply Rem.tail) .nil)) ?_
    rintro _ _ ⟨hpe, rfl⟩
    refine (blk_p ?_)
    exact pe_pan ((InfP.cod_put hs (by omega)).trans hp) hpe (sub (.cons (by repeat first | exact .head | apply Rem.tail) .nil) (by repeat first | exact .refl | apply Drop.skip))
   ·
    refine w_region ?_
    refine o_val (v_move rfl) rfl ?_
    refine o_val (v_move rfl) rfl ?_
    refine o_val (v_conv V.u3 Try.underlying5 rfl (wrap8 (by omega) (by omega))) rfl ?_
    refine o_call ((c_putO b bl sz mo po co (.pointer (some ⟨l, 0, none⟩)) (.pointer (some ⟨d, 0, none⟩)) { s with at_ := a1 } sy (by omega) hm).ok hp) V.b41  rfl (.cons (by repeat first | exact .head | apply Rem.tail) (.cons (by repeat first | exact .head | apply Rem.tail) .nil)) rfl ?_
    rintro _ _ ⟨rfl, rfl⟩
    refine o_nil ?_
    refine blk_n ?_
    obtain ⟨_, rfl⟩ := InfP.put_ok hp
    exact pe_end ((InfP.cod_put hs (by omega)).trans hp) res0 ⟨rfl, rfl⟩ (fold' (.cons (by repeat first | exact .head | apply Rem.tail) (.cons (by repeat first | exact .head | apply Rem.tail) (.cons (by repeat first | exact .head | apply Rem.tail) (.cons (by repeat first | exact .head | apply Rem.tail) .nil)))) (by repeat first | exact .refl | apply Drop.skip) (fun w0 h hh => mm_closeC (s := { s with at_ := a1, out := s.out ++ [sy] }) hh))
  ·
   refine w_seq ?_
   refine w_region ?_
   refine o_val (v_move rfl) rfl ?_
   refine o_val (v_eql rfl rfl) rfl ?_
   refine o_val (v_assign rfl) rfl ?_
   refine o_nil ?_
   refine thn_n ?_
   first | refine w_condD rfl (fun h43 => ?_) (fun h43 => ?_) | refine w_cond rfl (fun h43 => ?_) (fun h43 => ?_)
   ·
    refine w_region ?_
    refine o_val (v_move rfl) rfl ?_
    refine o_call (c_close b bl sz mo po s.out.length co (.pointer (some ⟨l, 0, none⟩)) (.pointer (some ⟨d, 0, none⟩)) s) V.b44  rfl (.cons (by repeat first | exact .head | apply Rem.tail) .nil) rfl ?_
    rintro _ _ ⟨rfl, rfl⟩
    refine o_nil ?_
    refine blk_n ?_
    exact pe_end (x := { s with at_ := a1, kind := -1, ended := s.last }) (InfP.cod_end hs (by omega)) res0 ⟨rfl, rfl⟩ ((fold' (.cons (by repeat first | exact .head | apply Rem.tail) (.cons (by repeat first | exact .head | apply Rem.tail) .nil)) .refl (fun w0 h hh => ms_close (s := { s with at_ := a1, kind := -1, ended := s.last }) rfl hh)).trans (fold' (.cons (by repeat first | exact .head | apply Rem.tail) (.cons (by repeat first | exact .head | apply Rem.tail) (.cons (by repeat first | exact .head | apply Rem.tail) (.cons (by repeat first | exact .head | apply Rem.tail) .nil)))) (by repeat first | exact .refl | apply Drop.skip) (fun w0 h hh => mm_closeC (s := { s with at_ := a1, kind := -1, ended := s.last }) hh)))
   ·
    rcases (InfP.len_or (B := B) (s := sy - 257) (a := a1) (by omega) ha1) with ⟨e, hn⟩ | ⟨n, a2, hn, hn0, hn1, hn2, hn3⟩
    ·
     refine w_seq ?_
     refine w_region ?_
     refine o_val (v_move rfl) rfl ?_
     refine o_val (v_move rfl) rfl ?_
     refine o_val (v_move rfl) rfl ?_
     refine o_val (v_sub rfl rfl (wrapI (by omega) (by omega))) rfl ?_
     refine o_val (v_sub (r := sy - 257) rfl rfl (by rw [show sy - 256 - 1 = sy - 257 from by omega]; exact wrapI (by omega) (by omega))) rfl ?_
     refine o_callE ((c_length b bl sz mo po s.out.length co (.pointer (some ⟨l, 0, none⟩)) (.pointer (some ⟨d, 0, none⟩)) s B a1 (sy - 257) (by omega) hl hB ha1).err hn) V.b52 rfl (.cons (by repeat first | exact .head | apply Rem.tail) (.cons (by repeat first | exact .head | apply Rem.tail) .nil)) ?_
     rintro _ _ ⟨hpe, rfl⟩
     refine (thn_p (blk_p ?_))
     exact pe_pan (InfP.cod_l hs (by omega) hn) hpe (sub (.cons (by repeat first | exact .head | apply Rem.tail) .nil) (by repeat first | exact .refl | apply Drop.skip))
    ·
     refine w_seq ?_
     refine w_region ?_
     refine o_val (v_move rfl) rfl ?_
     refine o_val (v_move rfl) rfl ?_
     refine o_val (v_move rfl) rfl ?_
     refine o_val (v_sub rfl rfl (wrapI (by omega) (by omega))) rfl ?_
     refine o_val (v_sub (r := sy - 257) rfl rfl (by rw [show sy - 256 - 1 = sy - 257 from by omega]; exact wrapI (by omega) (by omega))) rfl ?_
     refine o_call ((c_length b bl sz mo po s.out.length co (.pointer (some ⟨l, 0, none⟩)) (.pointer (some ⟨d, 0, none⟩)) s B a1 (sy - 257) (by omega) hl hB ha1).ok hn) V.b52  rfl (.cons (by repeat first | exact .head | apply Rem.tail) (.cons (by repeat first | exact .head | apply Rem.tail) .nil)) rfl ?_
     rintro _ _ ⟨rfl, rfl⟩
     refine o_val (v_nil rfl) rfl ?_
     refine o_val (v_fieldAddr V.f67_11 rfl) rfl ?_
     refine o_eff (v_store V.s3 rfl rfl rfl (by repeat first | exact .head | apply Rep.tail) (by exact Nat.le_of_ble_eq_true rfl) rfl) ?_
     refine o_nil ?_
     refine thn_n ?_
     rcases (InfP.away_or (B := B) (ds := s.dist) (a := a2) hE2 hz2) with ⟨e, hf⟩ | ⟨f, a3, hf, hf0, hf1, hf2, hf3⟩
     ·
      refine w_seq ?_
      refine w_region ?_
      refine o_val (v_move rfl) rfl ?_
      refine o_val (v_move rfl) rfl ?_
      refine o_callE ((c_away b bl sz mo po s.out.length co (.pointer (some ⟨l, 0, none⟩)) d { s with copies := n } B s.dist a2 hE2 hz2 hl hB hn3).err hf) V.b53 rfl (.cons (by repeat first | exact .head | apply Rem.tail) (.cons (by repeat first | exact .head | apply Rem.tail) (.cons (by repeat first | exact .head | apply Rem.tail) .nil))) ?_
      rintro _ _ ⟨hpe, rfl⟩
      refine (thn_p (blk_p ?_))
      exact pe_pan (InfP.cod_a hs (by omega) hn hf) hpe (sub (.cons (by repeat first | exact .head | apply Rem.tail) .nil) (by repeat first | exact .refl | apply Drop.skip))
     ·
      refine w_seq ?_
      refine w_region ?_
      refine o_val (v_move rfl) rfl ?_
      refine o_val (v_move rfl) rfl ?_
      refine o_call ((c_away b bl sz mo po s.out.length co (.pointer (some ⟨l, 0, none⟩)) d { s with copies := n } B s.dist a2 hE2 hz2 hl hB hn3).ok hf) V.b53  rfl (.cons (by repeat first | exact .head | apply Rem.tail) (.cons (by repeat first | exact .head | apply Rem.tail) (.cons (by repeat first | exact .head | apply Rem.tail) .nil))) rfl ?_
      rintro _ _ ⟨rfl, rfl⟩
      refine o_val (v_nil rfl) rfl ?_
      refine o_val (v_fieldAddr V.f67_12 rfl) rfl ?_
      refine o_eff (v_store V.s3 rfl rfl rfl (by repeat first | exact .head | apply Rep.tail) (by exact Nat.le_of_ble_eq_true rfl) rfl) ?_
      refine o_nil ?_
      refine thn_n ?_
      rcases (Classical.em (f ≤ s.out.length)) with hfo | hfo
      ·
       refine w_net [⟨[], [], [0], 0, 0⟩, ⟨[0], [0], [], 0, 0⟩, ⟨[0, 1], [1], [], 0, 0⟩, ⟨[0, 1, 2], [2], [], 0, 0⟩, ⟨[], [], [0], 0, 0⟩, ⟨[4], [4], [], 0, 0⟩, ⟨[4, 5], [5], [], 0, 0⟩, ⟨[4, 5, 6], [6], [], 0, 0⟩, ⟨[4, 5, 6, 7], [7], [], 0, 0⟩, ⟨[0, 1, 2, 3, 4, 5, 6, 7, 8], [3, 8], [], 0, 0⟩, ⟨[0, 1, 2, 3, 4, 5, 6, 7, 8, 9], [9], [], 0, 0⟩] [⟨fun y => Cel b 67 [.pointer (some ⟨bl, 0, none⟩), .int .i64 sz, .int .i64 mo, .slice po s.out.length co, .bool s.ended, .int .i64 0, .int .i64 s.kind, .int .i64 (s.left : Int), .bool s.last, (.pointer (some ⟨l, 0, none⟩)), (.pointer (some ⟨d, 0, none⟩)), .int .i64 (n : Int), .int .i64 (f : Int)], none, none, [3, 7]⟩, ⟨fun y => HC d s.dist, none, none, []⟩, ⟨fun y => LW bl B a3 [] 0, none, none, []⟩, ⟨fun y => Row U5 po s.out.length co s.out, none, none, []⟩, ⟨fun y => HC l s.lits, none, none, []⟩] F V.mixed (by kernel_rfl) rfl (fun _ => .refl _) (locT_0 _ (locT_0 _ (locT_0 _ (locT_0 _ (locT_0 _ locT_nil))))) ?_
       refine net_pure (fun y => [(0, _)]) (fun y => rfl) rfl rfl rfl (fun y hA L => st_v (v_move rfl) ⟨rfl, rfl⟩) (by intros; rfl) (by intro y y2 h; rfl) ?_
       refine net_pure (fun y => [(25, _)]) (fun y => rfl) rfl rfl rfl (fun y hA L => st_v (v_nil rfl) ⟨rfl, rfl⟩) (by intros; rfl) (by intro y y2 h; rfl) ?_
       refine net_pure (fun y => [(26, _)]) (fun y => rfl) rfl rfl rfl (fun y hA L => st_v (v_fieldAddr V.f67_12 rfl) ⟨rfl, rfl⟩) (by intros; rfl) (by intro y y2 h; rfl) ?_
       refine net_read (fun y => [Cel b 67 [.pointer (some ⟨bl, 0, none⟩), .int .i64 sz, .int .i64 mo, .slice po s.out.length co, .bool s.ended, .int .i64 0, .int .i64 s.kind, .int .i64 (s.left : Int), .bool s.last, (.pointer (some ⟨l, 0, none⟩)), (.pointer (some ⟨d, 0, none⟩)), .int .i64 (n : Int), .int .i64 (f : Int)]]) (fun y => [(27, _)]) (fun y => rfl) rfl (fun y => rfl) rfl (fun y FF hA => st_v (v_load V.s3 rfl (by repeat first | exact .head _ | apply List.Mem.tail) rfl) ⟨rfl, rfl⟩) (by intros; rfl) (by intro y y2 h; rfl) ?_
       refine net_pure (fun y => [(0, _)]) (fun y => rfl) rfl rfl rfl (fun y hA L => st_v (v_move rfl) ⟨rfl, rfl⟩) (by intros; rfl) (by intro y y2 h; rfl) ?_
       refine net_pure (fun y => [(29, _)]) (fun y => rfl) rfl rfl rfl (fun y hA L => st_v (v_nil rfl) ⟨rfl, rfl⟩) (by intros; rfl) (by intro y y2 h; rfl) ?_
       refine net_pure (fun y => [(30, _)]) (fun y => rfl) rfl rfl rfl (fun y hA L => st_v (v_fieldAddr V.f67_3 rfl) ⟨rfl, rfl⟩) (by intros; rfl) (by intro y y2 h; rfl) ?_
       refine net_read (fun y => [Cel b 67 [.pointer (some ⟨bl, 0, none⟩), .int .i64 sz, .int .i64 mo, .slice po s.out.length co, .bool s.ended, .int .i64 0, .int .i64 s.kind, .int .i64 (s.left : Int), .bool s.last, (.pointer (some ⟨l, 0, none⟩)), (.pointer (some ⟨d, 0, none⟩)), .int .i64 (n : Int), .int .i64 (f : Int)]]) (fun y => [(31, _)]) (fun y => rfl) rfl (fun y => rfl) rfl (fun y FF hA => st_v (v_load V.s22 rfl (by repeat first | exact .head _ | apply List.Mem.tail) rfl) ⟨rfl, rfl⟩) (by intros; rfl) (by intro y y2 h; rfl) ?_
       refine net_pure (fun y => [(32, _)]) (fun y => rfl) rfl rfl rfl (fun y hA L => st_v (v_len (ty' := 0) Try.underlying22 rfl) ⟨rfl, rfl⟩) (by intros; rfl) (by intro y y2 h; rfl) ?_
       refine net_pure (fun y => [(28, _), (33, _)]) (fun y => rfl) rfl rfl rfl (fun y hA L => st_v (v_T (v_leq rfl rfl) (by omega)) ⟨rfl, rfl⟩) (by intros; rfl) (by intro y y2 h; rfl) ?_
       refine net_eff (fun y => []) (fun y => []) (fun y => []) (fun y => [(34, _)]) (fun y => rfl) (fun y => rfl) (fun y => rfl) (fun y => rfl) (fun y FF hA => st_callN (Post := []) (c_must 4) V.b47 rfl .nil (fun v G h => by rcases h with ⟨rfl, rfl⟩; exact ⟨rfl, .refl _⟩)) (by intros; rfl) (by intros; rfl) (by intro y y2 h; rfl) ?_
       refine net_nil ?_
       intro y hA
       clear hA
       show blk _ _ _ _ (Cel b 67 [.pointer (some ⟨bl, 0, none⟩), .int .i64 sz, .int .i64 mo, .slice po s.out.length co, .bool s.ended, .int .i64 0, .int .i64 s.kind, .int .i64 (s.left : Int), .bool s.last, (.pointer (some ⟨l, 0, none⟩)), (.pointer (some ⟨d, 0, none⟩)), .int .i64 (n : Int), .int .i64 (f : Int)] :: HC d s.dist :: LW bl B a3 [] 0 :: Row U5 po s.out.length co s.out :: HC l s.lits :: F)
       refine blk_n ?_
       exact pe_end (x := { s with at_ := a3, copies := n, far := f }) (InfP.cod_y hs (by omega) hn hf (by omega)) res0 ⟨rfl, rfl⟩ ((fold' (.cons (by repeat first | exact .head | apply Rem.tail) (.cons (by repeat first | exact .head | apply Rem.tail) .nil)) .refl (fun w0 h hh => ms_close (s := { s with at_ := a3, copies := n, far := f }) rfl hh)).trans (fold' (.cons (by repeat first | exact .head | apply Rem.tail) (.cons (by repeat first | exact .head | apply Rem.tail) (.cons (by repeat first | exact .head | apply Rem.tail) (.cons (by repeat first | exact .head | apply Rem.tail) .nil)))) (by repeat first | exact .refl | apply Drop.skip) (fun w0 h hh => mm_closeC (s := { s with at_ := a3, copies := n, far := f }) hh)))
      ·
       refine w_net [⟨[], [], [0], 0, 0⟩, ⟨[0], [0], [], 0, 0⟩, ⟨[0, 1], [1], [], 0, 0⟩, ⟨[0, 1, 2], [2], [], 0, 0⟩, ⟨[], [], [0], 0, 0⟩, ⟨[4], [4], [], 0, 0⟩, ⟨[4, 5], [5], [], 0, 0⟩, ⟨[4, 5, 6], [6], [], 0, 0⟩, ⟨[4, 5, 6, 7], [7], [], 0, 0⟩, ⟨[0, 1, 2, 3, 4, 5, 6, 7, 8], [3, 8], [], 0, 0⟩, ⟨[0, 1, 2, 3, 4, 5, 6, 7, 8, 9], [9], [], 0, 0⟩] [⟨fun y => Cel b 67 [.pointer (some ⟨bl, 0, none⟩), .int .i64 sz, .int .i64 mo, .slice po s.out.length co, .bool s.ended, .int .i64 0, .int .i64 s.kind, .int .i64 (s.left : Int), .bool s.last, (.pointer (some ⟨l, 0, none⟩)), (.pointer (some ⟨d, 0, none⟩)), .int .i64 (n : Int), .int .i64 (f : Int)], none, none, [3, 7, 10]⟩, ⟨fun y => HC d s.dist, none, none, []⟩, ⟨fun y => LW bl B a3 [] 0, none, none, []⟩, ⟨fun y => Row U5 po s.out.length co s.out, none, none, []⟩, ⟨fun y => HC l s.lits, none, none, []⟩] F V.mixed (by kernel_rfl) rfl (fun _ => .refl _) (locT_0 _ (locT_0 _ (locT_0 _ (locT_0 _ (locT_0 _ locT_nil))))) ?_
       refine net_pure (fun y => [(0, _)]) (fun y => rfl) rfl rfl rfl (fun y hA L => st_v (v_move rfl) ⟨rfl, rfl⟩) (by intros; rfl) (by intro y y2 h; rfl) ?_
       refine net_pure (fun y => [(25, _)]) (fun y => rfl) rfl rfl rfl (fun y hA L => st_v (v_nil rfl) ⟨rfl, rfl⟩) (by intros; rfl) (by intro y y2 h; rfl) ?_
       refine net_pure (fun y => [(26, _)]) (fun y => rfl) rfl rfl rfl (fun y hA L => st_v (v_fieldAddr V.f67_12 rfl) ⟨rfl, rfl⟩) (by intros; rfl) (by intro y y2 h; rfl) ?_
       refine net_read (fun y => [Cel b 67 [.pointer (some ⟨bl, 0, none⟩), .int .i64 sz, .int .i64 mo, .slice po s.out.length co, .bool s.ended, .int .i64 0, .int .i64 s.kind, .int .i64 (s.left : Int), .bool s.last, (.pointer (some ⟨l, 0, none⟩)), (.pointer (some ⟨d, 0, none⟩)), .int .i64 (n : Int), .int .i64 (f : Int)]]) (fun y => [(27, _)]) (fun y => rfl) rfl (fun y => rfl) rfl (fun y FF hA => st_v (v_load V.s3 rfl (by repeat first | exact .head _ | apply List.Mem.tail) rfl) ⟨rfl, rfl⟩) (by intros; rfl) (by intro y y2 h; rfl) ?_
       refine net_pure (fun y => [(0, _)]) (fun y => rfl) rfl rfl rfl (fun y hA L => st_v (v_move rfl) ⟨rfl, rfl⟩) (by intros; rfl) (by intro y y2 h; rfl) ?_
       refine net_pure (fun y => [(29, _)]) (fun y => rfl) rfl rfl rfl (fun y hA L => st_v (v_nil rfl) ⟨rfl, rfl⟩) (by intros; rfl) (by intro y y2 h; rfl) ?_
       refine net_pure (fun y => [(30, _)]) (fun y => rfl) rfl rfl rfl (fun y hA L => st_v (v_fieldAddr V.f67_3 rfl) ⟨rfl, rfl⟩) (by intros; rfl) (by intro y y2 h; rfl) ?_
       refine net_read (fun y => [Cel b 67 [.pointer (some ⟨bl, 0, none⟩), .int .i64 sz, .int .i64 mo, .slice po s.out.length co, .bool s.ended, .int .i64 0, .int .i64 s.kind, .int .i64 (s.left : Int), .bool s.last, (.pointer (some ⟨l, 0, none⟩)), (.pointer (some ⟨d, 0, none⟩)), .int .i64 (n : Int), .int .i64 (f : Int)]]) (fun y => [(31, _)]) (fun y => rfl) rfl (fun y => rfl) rfl (fun y FF hA => st_v (v_load V.s22 rfl (by repeat first | exact .head _ | apply List.Mem.tail) rfl) ⟨rfl, rfl⟩) (by intros; rfl) (by intro y y2 h; rfl) ?_
       refine net_pure (fun y => [(32, _)]) (fun y => rfl) rfl rfl rfl (fun y hA L => st_v (v_len (ty' := 0) Try.underlying22 rfl) ⟨rfl, rfl⟩) (by intros; rfl) (by intro y y2 h; rfl) ?_
       refine net_pure (fun y => [(28, _), (33, _)]) (fun y => rfl) rfl rfl rfl (fun y hA L => st_v (v_F (v_leq rfl rfl) (by omega)) ⟨rfl, rfl⟩) (by intros; rfl) (by intro y y2 h; rfl) ?_
       refine net_pan (undef) (fun y => [Cel b 67 [.pointer (some ⟨bl, 0, none⟩), .int .i64 sz, .int .i64 mo, .slice po s.out.length co, .bool s.ended, .int .i64 0, .int .i64 s.kind, .int .i64 (s.left : Int), .bool s.last, (.pointer (some ⟨l, 0, none⟩)), (.pointer (some ⟨d, 0, none⟩)), .int .i64 (n : Int), .int .i64 (f : Int)]]) (fun y => [(34, _)]) (fun y => rfl) rfl (fun y => rfl) (fun y FF hA => st_callE (c_mustE 4) V.b47 rfl .nil (by rintro _ _ ⟨rfl, rfl⟩; exact x_pe (InfP.cod_n hs (by omega) hn hf (by omega)) (PE.no (by decide)) (fold' (.cons (by repeat first | exact .head | apply Rem.tail) .nil) (by first | exact dp0 (M := FF) (F := F) | exact dp1 (M := FF) (F := F) | exact dp2 (M := FF) (F := F) | exact dp3 (M := FF) (F := F) | exact dp4 (M := FF) (F := F) | exact dp5 (M := FF) (F := F) | exact dp6 (M := FF) (F := F) | exact dp7 (M := FF) (F := F) | exact dp8 (M := FF) (F := F) | exact dp9 (M := FF) (F := F)) (fun w0 h hh => mx_close hh)))) ?_
       refine net_nil ?_
       intro y hA
       exact (KnN.fact (hA 10 (by exact Nat.le_of_ble_eq_true rfl)) (q := fun _ => False) rfl).elim

set_option maxHeartbeats 4000000 in
set_option maxRecDepth 100000 in
theorem c_one (b bl : Nat) (sz mo : Int) (s : InfP.St) (B : List Int) (hl : B.length < 500000000) (hB : BitP.Byt B) (hm : mo < 1000000000) (hok : InfP.Ok B mo s) : Ctr Try.prog 31 [.pointer (some ⟨b, 0, none⟩)] [MM b bl sz mo B s] (PostE (InfP.one B mo s) (fun s2 v G => v = .tuple #[] ∧ G = [MM b bl sz mo B s2]) [MX b bl sz mo]) := by
 refine spec_of [(0, _)] Try.func31 rfl Try.ntmps31 rfl rfl ?_
 intro w0 F
 refine w_opn (fun h hh => hh) ?_
 rintro ⟨li, di⟩ _
 dsimp only
 refine w_opn (fun h hh => hh) ?_
 rintro ⟨po, co⟩ _
 dsimp only
 simp only [List.cons_append, List.nil_append]
 have ha := hok.at_
 have hro := hok.room
 have hcp := hok.copies
 have hlf := hok.left
 have hnb := BitP.numL_bound B s.at_ 8
 refine w_block ?_
 refine w_seq ?_
 refine w_region ?_
 refine o_val (v_move rfl) rfl ?_
 refine o_val (v_nil rfl) rfl ?_
 refine o_val (v_fieldAddr V.f67_11 rfl) rfl ?_
 refine o_val (v_load V.s3 rfl (by repeat first | exact .head _ | apply List.Mem.tail) rfl) rfl ?_
 refine o_val (v_gtr rfl rfl) rfl ?_
 refine o_val (v_assign rfl) rfl ?_
 refine o_nil ?_
 refine thn_n ?_
 first | refine w_condD rfl (fun h17 => ?_) (fun h17 => ?_) | refine w_cond rfl (fun h17 => ?_) (fun h17 => ?_)
 ·
  rcases (InfP.ex_or (InfP.put_ mo s (U5.g s.out ((s.out.length : Int) - (s.far : Int))))) with ⟨e, hp⟩ | ⟨s2, hp⟩
  ·
   refine w_seq ?_
   have hcs : 0 < s.copies := by omega
   have hfr := hok.far hcs
   have hge : U5.g s.out ((s.out.length : Int) - (s.far : Int)) = s.out.getD (s.out.length - s.far) 0 := gE _ (by omega)
   refine w_net [⟨[], [], [0], 0, 0⟩, ⟨[], [], [0], 0, 0⟩, ⟨[1], [1], [], 0, 0⟩, ⟨[1, 2], [2], [], 0, 0⟩, ⟨[1, 2, 3], [3], [], 0, 0⟩, ⟨[], [], [0], 0, 0⟩, ⟨[5], [5], [], 0, 0⟩, ⟨[5, 6], [6], [], 0, 0⟩, ⟨[5, 6, 7], [7], [], 0, 0⟩, ⟨[5, 6, 7, 8], [8], [], 0, 0⟩, ⟨[], [], [0], 0, 0⟩, ⟨[10], [10], [], 0, 0⟩, ⟨[10, 11], [11], [], 0, 0⟩, ⟨[10, 11, 12], [12], [], 0, 0⟩, ⟨[5, 6, 7, 8, 9, 10, 11, 12, 13], [9, 13], [], 0, 0⟩, ⟨[1, 2, 3, 4, 5, 6, 7, 8, 9, 10, 11, 12, 13, 14], [4, 14], [], 0, 0⟩, ⟨[1, 2, 3, 4, 5, 6, 7, 8, 9, 10, 11, 12, 13, 14, 15], [15], [], 0, 0⟩, ⟨[0, 1, 2, 3, 4, 5, 6, 7, 8, 9, 10, 11, 12, 13, 14, 15, 16], [0, 16], [], 0, 0⟩] [⟨fun y => Cel b 67 [.pointer (some ⟨bl, 0, none⟩), .int .i64 sz, .int .i64 mo, .slice po s.out.length co, .bool s.ended, .int .i64 0, .int .i64 s.kind, .int .i64 (s.left : Int), .bool s.last, li, di, .int .i64 (s.copies : Int), .int .i64 (s.far : Int)], none, none, [4, 8, 13, 17]⟩, ⟨fun y => Row U5 po s.out.length co s.out, none, none, [15, 16, 17]⟩, ⟨fun y => LW bl B s.at_ [] 0, none, none, []⟩, ⟨fun y => CD li di s, none, none, []⟩] F V.mixed (by kernel_rfl) rfl (fun _ => .refl _) (locT_0 _ (locT_0 _ (locT_0 _ (locT_0 _ locT_nil)))) ?_
   refine net_pure (fun y => [(0, _)]) (fun y => rfl) rfl rfl rfl (fun y hA L => st_v (v_move rfl) ⟨rfl, rfl⟩) (by intros; rfl) (by intro y y2 h; rfl) ?_
   refine net_pure (fun y => [(0, _)]) (fun y => rfl) rfl rfl rfl (fun y hA L => st_v (v_move rfl) ⟨rfl, rfl⟩) (by intros; rfl) (by intro y y2 h; rfl) ?_
   refine net_pure (fun y => [(24, _)]) (fun y => rfl) rfl rfl rfl (fun y hA L => st_v (v_nil rfl) ⟨rfl, rfl⟩) (by intros; rfl) (by intro y y2 h; rfl) ?_
   refine net_pure (fun y => [(25, _)]) (fun y => rfl) rfl rfl rfl (fun y hA L => st_v (v_fieldAddr V.f67_3 rfl) ⟨rfl, rfl⟩) (by intros; rfl) (by intro y y2 h; rfl) ?_
   refine net_read (fun y => [Cel b 67 [.pointer (some ⟨bl, 0, none⟩), .int .i64 sz, .int .i64 mo, .slice po s.out.length co, .bool s.ended, .int .i64 0, .int .i64 s.kind, .int .i64 (s.left : Int), .bool s.last, li, di, .int .i64 (s.copies : Int), .int .i64 (s.far : Int)]]) (fun y => [(26, _)]) (fun y => rfl) rfl (fun y => rfl) rfl (fun y FF hA => st_v (v_load V.s22 rfl (by repeat first | exact .head _ | apply List.Mem.tail) rfl) ⟨rfl, rfl⟩) (by intros; rfl) (by intro y y2 h; rfl) ?_
   refine net_pure (fun y => [(0, _)]) (fun y => rfl) rfl rfl rfl (fun y hA L => st_v (v_move rfl) ⟨rfl, rfl⟩) (by intros; rfl) (by intro y y2 h; rfl) ?_
   refine net_pure (fun y => [(28, _)]) (fun y => rfl) rfl rfl rfl (fun y hA L => st_v (v_nil rfl) ⟨rfl, rfl⟩) (by intros; rfl) (by intro y y2 h; rfl) ?_
   refine net_pure (fun y => [(29, _)]) (fun y => rfl) rfl rfl rfl (fun y hA L => st_v (v_fieldAddr V.f67_3 rfl) ⟨rfl, rfl⟩) (by intros; rfl) (by intro y y2 h; rfl) ?_
   refine net_read (fun y => [Cel b 67 [.pointer (some ⟨bl, 0, none⟩), .int .i64 sz, .int .i64 mo, .slice po s.out.length co, .bool s.ended, .int .i64 0, .int .i64 s.kind, .int .i64 (s.left : Int), .bool s.last, li, di, .int .i64 (s.copies : Int), .int .i64 (s.far : Int)]]) (fun y => [(30, _)]) (fun y => rfl) rfl (fun y => rfl) rfl (fun y FF hA => st_v (v_load V.s22 rfl (by repeat first | exact .head _ | apply List.Mem.tail) rfl) ⟨rfl, rfl⟩) (by intros; rfl) (by intro y y2 h; rfl) ?_
   refine net_pure (fun y => [(31, _)]) (fun y => rfl) rfl rfl rfl (fun y hA L => st_v (v_len (ty' := 0) Try.underlying22 rfl) ⟨rfl, rfl⟩) (by intros; rfl) (by intro y y2 h; rfl) ?_
   refine net_pure (fun y => [(0, _)]) (fun y => rfl) rfl rfl rfl (fun y hA L => st_v (v_move rfl) ⟨rfl, rfl⟩) (by intros; rfl) (by intro y y2 h; rfl) ?_
   refine net_pure (fun y => [(33, _)]) (fun y => rfl) rfl rfl rfl (fun y hA L => st_v (v_nil rfl) ⟨rfl, rfl⟩) (by intros; rfl) (by intro y y2 h; rfl) ?_
   refine net_pure (fun y => [(34, _)]) (fun y => rfl) rfl rfl rfl (fun y hA L => st_v (v_fieldAddr V.f67_12 rfl) ⟨rfl, rfl⟩) (by intros; rfl) (by intro y y2 h; rfl) ?_
   refine net_read (fun y => [Cel b 67 [.pointer (some ⟨bl, 0, none⟩), .int .i64 sz, .int .i64 mo, .slice po s.out.length co, .bool s.ended, .int .i64 0, .int .i64 s.kind, .int .i64 (s.left : Int), .bool s.last, li, di, .int .i64 (s.copies : Int), .int .i64 (s.far : Int)]]) (fun y => [(35, _)]) (fun y => rfl) rfl (fun y => rfl) rfl (fun y FF hA => st_v (v_load V.s3 rfl (by repeat first | exact .head _ | apply List.Mem.tail) rfl) ⟨rfl, rfl⟩) (by intros; rfl) (by intro y y2 h; rfl) ?_
   refine net_pure (fun y => [(32, _), (36, _)]) (fun y => rfl) rfl rfl rfl (fun y hA L => st_v (v_sub rfl rfl (wrapI (by omega) (by omega))) ⟨rfl, rfl⟩) (by intros; rfl) (by intro y y2 h; rfl) ?_
   refine net_read (fun y => [Row U5 po s.out.length co s.out]) (fun y => [(27, _), (37, _)]) (fun y => rfl) rfl (fun y => rfl) rfl (fun y FF hA => st_v (r_index (c := (U5)) V.sl22 rfl rfl (own (by repeat first | exact .head _ | apply List.Mem.tail)) (by omega) (by omega)) ⟨rfl, rfl⟩) (by intros; rfl) (by intro y y2 h; rfl) ?_
   refine net_read (fun y => [Row U5 po s.out.length co s.out]) (fun y => [(38, _)]) (fun y => rfl) rfl (fun y => rfl) rfl (fun y FF hA => st_v (r_load (c := (U5)) V.s5 rfl (own (by repeat first | exact .head _ | apply List.Mem.tail)) (by omega) (by omega) rfl rfl) ⟨rfl, rfl⟩) (by intros; rfl) (by intro y y2 h; rfl) ?_
   refine net_pan (undef) (fun y => [Cel b 67 [.pointer (some ⟨bl, 0, none⟩), .int .i64 sz, .int .i64 mo, .slice po s.out.length co, .bool s.ended, .int .i64 0, .int .i64 s.kind, .int .i64 (s.left : Int), .bool s.last, li, di, .int .i64 (s.copies : Int), .int .i64 (s.far : Int)], Row U5 po s.out.length co s.out]) (fun y => [(23, _), (39, _)]) (fun y => rfl) rfl (fun y => rfl) (fun y FF hA => st_callE ((c_putO b bl sz mo po co li di s (U5.g s.out ((s.out.length : Int) - (s.far : Int))) (by rw [hge]; exact hok.byt.get _) hm).err hp) V.b41 rfl (.cons (by repeat first | exact .head | apply Rem.tail) (.cons (by repeat first | exact .head | apply Rem.tail) .nil)) (by rintro _ _ ⟨hpe, rfl⟩; exact x_pe (InfP.one_ce hcs (by rw [← hge]; exact hp)) hpe (sub (.cons (by repeat first | exact .head | apply Rem.tail) .nil) (by first | exact dp0 (M := FF) (F := F) | exact dp1 (M := FF) (F := F) | exact dp2 (M := FF) (F := F) | exact dp3 (M := FF) (F := F) | exact dp4 (M := FF) (F := F) | exact dp5 (M := FF) (F := F) | exact dp6 (M := FF) (F := F) | exact dp7 (M := FF) (F := F) | exact dp8 (M := FF) (F := F) | exact dp9 (M := FF) (F := F))))) ?_
   refine net_nil ?_
   intro y hA
   exact (KnN.fact (hA 17 (by exact Nat.le_of_ble_eq_true rfl)) (q := fun _ => False) rfl).elim
  ·
   refine w_seq ?_
   have hcs : 0 < s.copies := by omega
   have hfr := hok.far hcs
   have hge : U5.g s.out ((s.out.length : Int) - (s.far : Int)) = s.out.getD (s.out.length - s.far) 0 := gE _ (by omega)
   refine w_net [⟨[], [], [0], 0, 0⟩, ⟨[], [], [0], 0, 0⟩, ⟨[1], [1], [], 0, 0⟩, ⟨[1, 2], [2], [], 0, 0⟩, ⟨[1, 2, 3], [3], [], 0, 0⟩, ⟨[], [], [0], 0, 0⟩, ⟨[5], [5], [], 0, 0⟩, ⟨[5, 6], [6], [], 0, 0⟩, ⟨[5, 6, 7], [7], [], 0, 0⟩, ⟨[5, 6, 7, 8], [8], [], 0, 0⟩, ⟨[], [], [0], 0, 0⟩, ⟨[10], [10], [], 0, 0⟩, ⟨[10, 11], [11], [], 0, 0⟩, ⟨[10, 11, 12], [12], [], 0, 0⟩, ⟨[5, 6, 7, 8, 9, 10, 11, 12, 13], [9, 13], [], 0, 0⟩, ⟨[1, 2, 3, 4, 5, 6, 7, 8, 9, 10, 11, 12, 13, 14], [4, 14], [], 0, 0⟩, ⟨[1, 2, 3, 4, 5, 6, 7, 8, 9, 10, 11, 12, 13, 14, 15], [15], [], 0, 0⟩, ⟨[0, 1, 2, 3, 4, 5, 6, 7, 8, 9, 10, 11, 12, 13, 14, 15, 16], [0, 16], [], 0, 0⟩] [⟨fun y => Cel b 67 [.pointer (some ⟨bl, 0, none⟩), .int .i64 sz, .int .i64 mo, .slice po s.out.length co, .bool s.ended, .int .i64 0, .int .i64 s.kind, .int .i64 (s.left : Int), .bool s.last, li, di, .int .i64 (s.copies : Int), .int .i64 (s.far : Int)], none, some 17, [4, 8, 13]⟩, ⟨fun y => Row U5 po s.out.length co s.out, none, some 17, [15, 16]⟩, ⟨fun y => LW bl B s.at_ [] 0, none, none, []⟩, ⟨fun y => CD li di s, none, none, []⟩, ⟨fun y => MS b bl sz mo li di s2, some 17, none, []⟩] F V.mixed (by kernel_rfl) rfl (fun _ => .refl _) (locT_0 _ (locT_0 _ (locT_0 _ (locT_0 _ (locT_1 [0, 1, 2, 3, 4, 5, 6, 7, 8, 9, 10, 11, 12, 13, 14, 15, 16] rfl (by intro y y2 h; rfl) locT_nil))))) ?_
   refine net_pure (fun y => [(0, _)]) (fun y => rfl) rfl rfl rfl (fun y hA L => st_v (v_move rfl) ⟨rfl, rfl⟩) (by intros; rfl) (by intro y y2 h; rfl) ?_
   refine net_pure (fun y => [(0, _)]) (fun y => rfl) rfl rfl rfl (fun y hA L => st_v (v_move rfl) ⟨rfl, rfl⟩) (by intros; rfl) (by intro y y2 h; rfl) ?_
   refine net_pure (fun y => [(24, _)]) (fun y => rfl) rfl rfl rfl (fun y hA L => st_v (v_nil rfl) ⟨rfl, rfl⟩) (by intros; rfl) (by intro y y2 h; rfl) ?_
   refine net_pure (fun y => [(25, _)]) (fun y => rfl) rfl rfl rfl (fun y hA L => st_v (v_fieldAddr V.f67_3 rfl) ⟨rfl, rfl⟩) (by intros; rfl) (by intro y y2 h; rfl) ?_
   refine net_read (fun y => [Cel b 67 [.pointer (some ⟨bl, 0, none⟩), .int .i64 sz, .int .i64 mo, .slice po s.out.length co, .bool s.ended, .int .i64 0, .int .i64 s.kind, .int .i64 (s.left : Int), .bool s.last, li, di, .int .i64 (s.copies : Int), .int .i64 (s.far : Int)]]) (fun y => [(26, _)]) (fun y => rfl) rfl (fun y => rfl) rfl (fun y FF hA => st_v (v_load V.s22 rfl (by repeat first | exact .head _ | apply List.Mem.tail) rfl) ⟨rfl, rfl⟩) (by intros; rfl) (by intro y y2 h; rfl) ?_
   refine net_pure (fun y => [(0, _)]) (fun y => rfl) rfl rfl rfl (fun y hA L => st_v (v_move rfl) ⟨rfl, rfl⟩) (by intros; rfl) (by intro y y2 h; rfl) ?_
   refine net_pure (fun y => [(28, _)]) (fun y => rfl) rfl rfl rfl (fun y hA L => st_v (v_nil rfl) ⟨rfl, rfl⟩) (by intros; rfl) (by intro y y2 h; rfl) ?_
   refine net_pure (fun y => [(29, _)]) (fun y => rfl) rfl rfl rfl (fun y hA L => st_v (v_fieldAddr V.f67_3 rfl) ⟨rfl, rfl⟩) (by intros; rfl) (by intro y y2 h; rfl) ?_
   refine net_read (fun y => [Cel b 67 [.pointer (some ⟨bl, 0, none⟩), .int .i64 sz, .int .i64 mo, .slice po s.out.length co, .bool s.ended, .int .i64 0, .int .i64 s.kind, .int .i64 (s.left : Int), .bool s.last, li, di, .int .i64 (s.copies : Int), .int .i64 (s.far : Int)]]) (fun y => [(30, _)]) (fun y => rfl) rfl (fun y => rfl) rfl (fun y FF hA => st_v (v_load V.s22 rfl (by repeat first | exact .head _ | apply List.Mem.tail) rfl) ⟨rfl, rfl⟩) (by intros; rfl) (by intro y y2 h; rfl) ?_
   refine net_pure (fun y => [(31, _)]) (fun y => rfl) rfl rfl rfl (fun y hA L => st_v (v_len (ty' := 0) Try.underlying22 rfl) ⟨rfl, rfl⟩) (by intros; rfl) (by intro y y2 h; rfl) ?_
   refine net_pure (fun y => [(0, _)]) (fun y => rfl) rfl rfl rfl (fun y hA L => st_v (v_move rfl) ⟨rfl, rfl⟩) (by intros; rfl) (by intro y y2 h; rfl) ?_
   refine net_pure (fun y => [(33, _)]) (fun y => rfl) rfl rfl rfl (fun y hA L => st_v (v_nil rfl) ⟨rfl, rfl⟩) (by intros; rfl) (by intro y y2 h; rfl) ?_
   refine net_pure (fun y => [(34, _)]) (fun y => rfl) rfl rfl rfl (fun y hA L => st_v (v_fieldAddr V.f67_12 rfl) ⟨rfl, rfl⟩) (by intros; rfl) (by intro y y2 h; rfl) ?_
   refine net_read (fun y => [Cel b 67 [.pointer (some ⟨bl, 0, none⟩), .int .i64 sz, .int .i64 mo, .slice po s.out.length co, .bool s.ended, .int .i64 0, .int .i64 s.kind, .int .i64 (s.left : Int), .bool s.last, li, di, .int .i64 (s.copies : Int), .int .i64 (s.far : Int)]]) (fun y => [(35, _)]) (fun y => rfl) rfl (fun y => rfl) rfl (fun y FF hA => st_v (v_load V.s3 rfl (by repeat first | exact .head _ | apply List.Mem.tail) rfl) ⟨rfl, rfl⟩) (by intros; rfl) (by intro y y2 h; rfl) ?_
   refine net_pure (fun y => [(32, _), (36, _)]) (fun y => rfl) rfl rfl rfl (fun y hA L => st_v (v_sub rfl rfl (wrapI (by omega) (by omega))) ⟨rfl, rfl⟩) (by intros; rfl) (by intro y y2 h; rfl) ?_
   refine net_read (fun y => [Row U5 po s.out.length co s.out]) (fun y => [(27, _), (37, _)]) (fun y => rfl) rfl (fun y => rfl) rfl (fun y FF hA => st_v (r_index (c := (U5)) V.sl22 rfl rfl (own (by repeat first | exact .head _ | apply List.Mem.tail)) (by omega) (by omega)) ⟨rfl, rfl⟩) (by intros; rfl) (by intro y y2 h; rfl) ?_
   refine net_read (fun y => [Row U5 po s.out.length co s.out]) (fun y => [(38, _)]) (fun y => rfl) rfl (fun y => rfl) rfl (fun y FF hA => st_v (r_load (c := (U5)) V.s5 rfl (own (by repeat first | exact .head _ | apply List.Mem.tail)) (by omega) (by omega) rfl rfl) ⟨rfl, rfl⟩) (by intros; rfl) (by intro y y2 h; rfl) ?_
   refine net_eff (fun y => [Cel b 67 [.pointer (some ⟨bl, 0, none⟩), .int .i64 sz, .int .i64 mo, .slice po s.out.length co, .bool s.ended, .int .i64 0, .int .i64 s.kind, .int .i64 (s.left : Int), .bool s.last, li, di, .int .i64 (s.copies : Int), .int .i64 (s.far : Int)], Row U5 po s.out.length co s.out]) (fun y => []) (fun y => [MS b bl sz mo li di s2]) (fun y => [(23, _), (39, _)]) (fun y => rfl) (fun y => rfl) (fun y => rfl) (fun y => rfl) (fun y FF hA => st_callN (Post := [MS b bl sz mo li di s2]) ((c_putO b bl sz mo po co li di s (U5.g s.out ((s.out.length : Int) - (s.far : Int))) (by rw [hge]; exact hok.byt.get _) hm).ok hp) V.b41 rfl (.cons (by repeat first | exact .head | apply Rem.tail) (.cons (by repeat first | exact .head | apply Rem.tail) .nil)) (fun v G h => by rcases h with ⟨rfl, rfl⟩; exact ⟨rfl, .refl _⟩)) (by intros; rfl) (by intros; rfl) (by intro y y2 h; rfl) ?_
   refine net_nil ?_
   intro y hA
   clear hA
   refine thn_n ?_
   refine w_keep _ (.cons (d := 0) rfl (.nil _)) ?_
   refine w_sub (M := LW bl B s.at_ [] 0 :: CD li di s :: MS b bl sz mo li di s2 :: F) (fun _ _ h => h) ?_
   obtain ⟨hroom, rfl⟩ := InfP.put_ok hp
   refine w_opnR (by repeat first | exact .head | apply Rem.tail) (fun h hh => ms_open hh) ?_
   rintro ⟨po2, co2⟩ _
   dsimp only
   simp only [List.cons_append, List.nil_append]
   refine w_region ?_
   refine o_val (v_move rfl) rfl ?_
   refine o_val (v_nil rfl) rfl ?_
   refine o_val (v_fieldAddr V.f67_11 rfl) rfl ?_
   refine o_val (v_load V.s3 rfl (by repeat first | exact .head _ | apply List.Mem.tail) rfl) rfl ?_
   refine o_val (v_sub rfl rfl (wrapI (by omega) (by omega))) rfl ?_
   refine o_val (v_nil rfl) rfl ?_
   refine o_val (v_fieldAddr V.f67_11 rfl) rfl ?_
   refine o_eff (v_store V.s3 rfl rfl rfl (by repeat first | exact .head | apply Rep.tail) (by exact Nat.le_of_ble_eq_true rfl) rfl) ?_
   refine o_nil ?_
   refine blk_n ?_
   rw [show (s.copies : Int) - 1 = ((s.copies - 1 : Nat) : Int) from by omega]
   exact pe_end (x := { s with copies := s.copies - 1, out := s.out ++ [(U5.g s.out ((s.out.length : Int) - (s.far : Int)))] }) (by rw [hge]; exact InfP.one_cy hcs hroom) res0 ⟨rfl, rfl⟩ ((fold' (.cons (by repeat first | exact .head | apply Rem.tail) (.cons (by repeat first | exact .head | apply Rem.tail) .nil)) .refl (fun w0 h hh => ms_close (s := { s with copies := s.copies - 1, out := s.out ++ [(U5.g s.out ((s.out.length : Int) - (s.far : Int)))] }) (by simp) hh)).trans (fold' (.cons (by repeat first | exact .head | apply Rem.tail) (.cons (by repeat first | exact .head | apply Rem.tail) (.cons (by repeat first | exact .head | apply Rem.tail) .nil))) (by repeat first | exact .refl | apply Drop.skip) (fun w0 h hh => mm_closeD (s := { s with copies := s.copies - 1, out := s.out ++ [(U5.g s.out ((s.out.length : Int) - (s.far : Int)))] }) hh)))
 ·
  refine w_seq ?_
  refine w_region ?_
  refine o_val (v_move rfl) rfl ?_
  refine o_val (v_nil rfl) rfl ?_
  refine o_val (v_fieldAddr V.f67_6 rfl) rfl ?_
  refine o_val (v_load V.s3 rfl (by repeat first | exact .head _ | apply List.Mem.tail) rfl) rfl ?_
  refine o_val (v_eql rfl rfl) rfl ?_
  refine o_val (v_assign rfl) rfl ?_
  refine o_nil ?_
  refine thn_n ?_
  first | refine w_condD rfl (fun h48 => ?_) (fun h48 => ?_) | refine w_cond rfl (fun h48 => ?_) (fun h48 => ?_)
  ·
   rcases (InfP.ex_or (InfP.begin_ B s)) with ⟨e, hp⟩ | ⟨s2, hp⟩
   ·
    have hcs : ¬ 0 < s.copies := by omega
    have hk1 : s.kind = -1 := by omega
    refine w_sub (fold' (.cons (by repeat first | exact .head | apply Rem.tail) (.cons (by repeat first | exact .head | apply Rem.tail) .nil)) .refl (fun w0 h hh => ms_close (s := s) rfl hh)) ?_
    refine w_region ?_
    refine o_val (v_move rfl) rfl ?_
    refine o_callE ((c_begin b bl sz mo li di s B hl hB ha).err hp) V.b42 rfl (.cons (by repeat first | exact .head | apply Rem.tail) (.cons (by repeat first | exact .head | apply Rem.tail) .nil)) ?_
    rintro _ _ ⟨hpe, rfl⟩
    refine (blk_p ?_)
    exact pe_pan ((InfP.one_b hcs hk1).trans hp) hpe (sub (.cons (by repeat first | exact .head | apply Rem.tail) .nil) (by repeat first | exact .refl | apply Drop.skip))
   ·
    have hcs : ¬ 0 < s.copies := by omega
    have hk1 : s.kind = -1 := by omega
    refine w_sub (fold' (.cons (by repeat first | exact .head | apply Rem.tail) (.cons (by repeat first | exact .head | apply Rem.tail) .nil)) .refl (fun w0 h hh => ms_close (s := s) rfl hh)) ?_
    refine w_region ?_
    refine o_val (v_move rfl) rfl ?_
    refine o_call ((c_begin b bl sz mo li di s B hl hB ha).ok hp) V.b42  rfl (.cons (by repeat first | exact .head | apply Rem.tail) (.cons (by repeat first | exact .head | apply Rem.tail) .nil)) rfl ?_
    rintro _ _ ⟨rfl, rfl⟩
    refine o_nil ?_
    refine blk_n ?_
    exact pe_end ((InfP.one_b hcs hk1).trans hp) res0 ⟨rfl, rfl⟩ (sub (.cons (by repeat first | exact .head | apply Rem.tail) .nil) (by repeat first | exact .refl | apply Drop.skip))
  ·
   refine w_seq ?_
   refine w_region ?_
   refine o_val (v_move rfl) rfl ?_
   refine o_val (v_nil rfl) rfl ?_
   refine o_val (v_fieldAddr V.f67_6 rfl) rfl ?_
   refine o_val (v_load V.s3 rfl (by repeat first | exact .head _ | apply List.Mem.tail) rfl) rfl ?_
   refine o_val (v_neq rfl rfl) rfl ?_
   refine o_val (v_assign rfl) rfl ?_
   refine o_nil ?_
   refine thn_n ?_
   first | refine w_condD rfl (fun h56 => ?_) (fun h56 => ?_) | refine w_cond rfl (fun h56 => ?_) (fun h56 => ?_)
   ·
    rcases (InfP.ex_or (InfP.coded B mo s)) with ⟨e, hp⟩ | ⟨s2, hp⟩
    ·
     have hcs : ¬ 0 < s.copies := by omega
     have hk1 : ¬ s.kind = -1 := by omega
     have hk0 : s.kind ≠ 0 := by omega
     have hkp : 0 < s.kind := by have := hok.kind; omega
     refine w_opnR (by repeat first | exact .head | apply Rem.tail) (fun h hh => cd_open hkp hh) ?_
     rintro ⟨l, d⟩ ⟨h1, h2⟩
     dsimp only at h1 h2
     subst h1
     subst h2
     simp only [List.cons_append, List.nil_append]
     refine w_sub (fold' (.cons (by repeat first | exact .head | apply Rem.tail) (.cons (by repeat first | exact .head | apply Rem.tail) .nil)) .refl (fun w0 h hh => ms_close (s := s) rfl hh)) ?_
     refine w_region ?_
     refine o_val (v_move rfl) rfl ?_
     refine o_callE ((c_coded b bl sz mo l d s B hl hB hm hok hkp).err hp) V.b43 rfl (.cons (by repeat first | exact .head | apply Rem.tail) (.cons (by repeat first | exact .head | apply Rem.tail) (.cons (by repeat first | exact .head | apply Rem.tail) (.cons (by repeat first | exact .head | apply Rem.tail) .nil)))) ?_
     rintro _ _ ⟨hpe, rfl⟩
     refine (blk_p ?_)
     exact pe_pan ((InfP.one_c hcs hk1 hk0).trans hp) hpe (sub (.cons (by repeat first | exact .head | apply Rem.tail) .nil) (by repeat first | exact .refl | apply Drop.skip))
    ·
     have hcs : ¬ 0 < s.copies := by omega
     have hk1 : ¬ s.kind = -1 := by omega
     have hk0 : s.kind ≠ 0 := by omega
     have hkp : 0 < s.kind := by have := hok.kind; omega
     refine w_opnR (by repeat first | exact .head | apply Rem.tail) (fun h hh => cd_open hkp hh) ?_
     rintro ⟨l, d⟩ ⟨h1, h2⟩
     dsimp only at h1 h2
     subst h1
     subst h2
     simp only [List.cons_append, List.nil_append]
     refine w_sub (fold' (.cons (by repeat first | exact .head | apply Rem.tail) (.cons (by repeat first | exact .head | apply Rem.tail) .nil)) .refl (fun w0 h hh => ms_close (s := s) rfl hh)) ?_
     refine w_region ?_
     refine o_val (v_move rfl) rfl ?_
     refine o_call ((c_coded b bl sz mo l d s B hl hB hm hok hkp).ok hp) V.b43  rfl (.cons (by repeat first | exact .head | apply Rem.tail) (.cons (by repeat first | exact .head | apply Rem.tail) (.cons (by repeat first | exact .head | apply Rem.tail) (.cons (by repeat first | exact .head | apply Rem.tail) .nil)))) rfl ?_
     rintro _ _ ⟨rfl, rfl⟩
     refine o_nil ?_
     refine blk_n ?_
     exact pe_end ((InfP.one_c hcs hk1 hk0).trans hp) res0 ⟨rfl, rfl⟩ (sub (.cons (by repeat first | exact .head | apply Rem.tail) .nil) (by repeat first | exact .refl | apply Drop.skip))
   ·
    refine w_seq ?_
    refine w_region ?_
    refine o_val (v_move rfl) rfl ?_
    refine o_val (v_nil rfl) rfl ?_
    refine o_val (v_fieldAddr V.f67_7 rfl) rfl ?_
    refine o_val (v_load V.s3 rfl (by repeat first | exact .head _ | apply List.Mem.tail) rfl) rfl ?_
    refine o_val (v_eql rfl rfl) rfl ?_
    refine o_val (v_assign rfl) rfl ?_
    refine o_nil ?_
    refine thn_n ?_
    first | refine w_condD rfl (fun h64 => ?_) (fun h64 => ?_) | refine w_cond rfl (fun h64 => ?_) (fun h64 => ?_)
    ·
     have hcs : ¬ 0 < s.copies := by omega
     have hk1 : ¬ s.kind = -1 := by omega
     have hk0 : s.kind = 0 := by omega
     have hl0 : s.left = 0 := by omega
     refine w_region ?_
     refine o_val (v_move rfl) rfl ?_
     refine o_call (c_close b bl sz mo po s.out.length co li di s) V.b44  rfl (.cons (by repeat first | exact .head | apply Rem.tail) .nil) rfl ?_
     rintro _ _ ⟨rfl, rfl⟩
     refine o_nil ?_
     refine blk_n ?_
     exact pe_end (x := { s with kind := -1, ended := s.last }) (InfP.one_l0 hcs hk1 hk0 hl0) res0 ⟨rfl, rfl⟩ ((fold' (.cons (by repeat first | exact .head | apply Rem.tail) (.cons (by repeat first | exact .head | apply Rem.tail) .nil)) .refl (fun w0 h hh => ms_close (s := { s with kind := -1, ended := s.last }) rfl hh)).trans (fold' (.cons (by repeat first | exact .head | apply Rem.tail) (.cons (by repeat first | exact .head | apply Rem.tail) .nil)) (by repeat first | exact .refl | apply Drop.skip) (fun w0 h hh => mm_close0 (s := { s with kind := -1, ended := s.last }) (by show (-1 : Int) ≤ 0; decide) hh)))
    ·
     rcases (InfP.put_or B s.at_ mo { s with at_ := s.at_ + 8 } (BitP.numL B s.at_ 8)) with hx | ⟨hx, e, hp⟩ | ⟨hx, s2, hp⟩
     ·
      refine w_seq ?_
      have hcs : ¬ 0 < s.copies := by omega
      have hk1 : ¬ s.kind = -1 := by omega
      have hk0 : s.kind = 0 := by omega
      have hl0 : ¬ s.left = 0 := by omega
      refine w_region ?_
      refine o_val (v_move rfl) rfl ?_
      refine o_val (v_move rfl) rfl ?_
      refine o_val (v_nil rfl) rfl ?_
      refine o_val (v_fieldAddr V.f67_0 rfl) rfl ?_
      refine o_val (v_load V.s63 rfl (by repeat first | exact .head _ | apply List.Mem.tail) rfl) rfl ?_
      refine o_callE (c_takeE bl B s.at_ [] 0 8 hl hB (by omega) (by omega) (by omega)) V.b45 rfl (.cons (by repeat first | exact .head | apply Rem.tail) .nil) ?_
      rintro _ _ ⟨rfl, rfl⟩
      refine (thn_p (blk_p ?_))
      exact pe_pan (InfP.one_ls hcs hk1 hk0 hl0 hx) PE.end_ (fold' (.cons (by repeat first | exact .head | apply Rem.tail) .nil) (by repeat first | exact .refl | apply Drop.skip) (fun w0 h hh => mx_close hh))
     ·
      refine w_seq ?_
      have hcs : ¬ 0 < s.copies := by omega
      have hk1 : ¬ s.kind = -1 := by omega
      have hk0 : s.kind = 0 := by omega
      have hl0 : ¬ s.left = 0 := by omega
      refine w_region ?_
      refine o_val (v_move rfl) rfl ?_
      refine o_val (v_move rfl) rfl ?_
      refine o_val (v_nil rfl) rfl ?_
      refine o_val (v_fieldAddr V.f67_0 rfl) rfl ?_
      refine o_val (v_load V.s63 rfl (by repeat first | exact .head _ | apply List.Mem.tail) rfl) rfl ?_
      refine o_call (c_take bl B s.at_ [] 0 8 hl hB (by omega) (by omega)) V.b45  rfl (.cons (by repeat first | exact .head | apply Rem.tail) .nil) rfl ?_
      rintro _ _ ⟨rfl, rfl⟩
      refine o_val (v_conv V.u3 Try.underlying5 rfl (wrap8 (by omega) (by omega))) rfl ?_
      refine o_callE ((c_putO b bl sz mo po co li di s (BitP.numL B s.at_ 8) (by omega) hm).err (InfP.put_er hp)) V.b41 rfl (.cons (by repeat first | exact .head | apply Rem.tail) (.cons (by repeat first | exact .head | apply Rem.tail) .nil)) ?_
      rintro _ _ ⟨hpe, rfl⟩
      refine (thn_p (blk_p ?_))
      exact pe_pan (InfP.one_le hcs hk1 hk0 hl0 hx hp) hpe (sub (.cons (by repeat first | exact .head | apply Rem.tail) .nil) (by repeat first | exact .refl | apply Drop.skip))
     ·
      refine w_seq ?_
      have hcs : ¬ 0 < s.copies := by omega
      have hk1 : ¬ s.kind = -1 := by omega
      have hk0 : s.kind = 0 := by omega
      have hl0 : ¬ s.left = 0 := by omega
      refine w_region ?_
      refine o_val (v_move rfl) rfl ?_
      refine o_val (v_move rfl) rfl ?_
      refine o_val (v_nil rfl) rfl ?_
      refine o_val (v_fieldAddr V.f67_0 rfl) rfl ?_
      refine o_val (v_load V.s63 rfl (by repeat first | exact .head _ | apply List.Mem.tail) rfl) rfl ?_
      refine o_call (c_take bl B s.at_ [] 0 8 hl hB (by omega) (by omega)) V.b45  rfl (.cons (by repeat first | exact .head | apply Rem.tail) .nil) rfl ?_
      rintro _ _ ⟨rfl, rfl⟩
      refine o_val (v_conv V.u3 Try.underlying5 rfl (wrap8 (by omega) (by omega))) rfl ?_
      refine o_call ((c_putO b bl sz mo po co li di { s with at_ := s.at_ + 8 } (BitP.numL B s.at_ 8) (by omega) hm).ok hp) V.b41  rfl (.cons (by repeat first | exact .head | apply Rem.tail) (.cons (by repeat first | exact .head | apply Rem.tail) .nil)) rfl ?_
      rintro _ _ ⟨rfl, rfl⟩
      refine o_nil ?_
      refine thn_n ?_
      obtain ⟨hroom, rfl⟩ := InfP.put_ok hp
      refine w_opnR (by repeat first | exact .head | apply Rem.tail) (fun h hh => ms_open hh) ?_
      rintro ⟨po2, co2⟩ _
      dsimp only
      simp only [List.cons_append, List.nil_append]
      refine w_region ?_
      refine o_val (v_move rfl) rfl ?_
      refine o_val (v_nil rfl) rfl ?_
      refine o_val (v_fieldAddr V.f67_7 rfl) rfl ?_
      refine o_val (v_load V.s3 rfl (by repeat first | exact .head _ | apply List.Mem.tail) rfl) rfl ?_
      refine o_val (v_sub rfl rfl (wrapI (by omega) (by omega))) rfl ?_
      refine o_val (v_nil rfl) rfl ?_
      refine o_val (v_fieldAddr V.f67_7 rfl) rfl ?_
      refine o_eff (v_store V.s3 rfl rfl rfl (by repeat first | exact .head | apply Rep.tail) (by exact Nat.le_of_ble_eq_true rfl) rfl) ?_
      refine o_nil ?_
      refine blk_n ?_
      rw [show (s.left : Int) - 1 = ((s.left - 1 : Nat) : Int) from by omega]
      exact pe_end (x := { s with at_ := s.at_ + 8, left := s.left - 1, out := s.out ++ [(BitP.numL B s.at_ 8)] }) (InfP.one_ly hcs hk1 hk0 hl0 hx hroom) res0 ⟨rfl, rfl⟩ ((fold' (.cons (by repeat first | exact .head | apply Rem.tail) (.cons (by repeat first | exact .head | apply Rem.tail) .nil)) .refl (fun w0 h hh => ms_close (s := { s with at_ := s.at_ + 8, left := s.left - 1, out := s.out ++ [(BitP.numL B s.at_ 8)] }) (by simp) hh)).trans (fold' (.cons (by repeat first | exact .head | apply Rem.tail) (.cons (by repeat first | exact .head | apply Rem.tail) .nil)) (by repeat first | exact .refl | apply Drop.skip) (fun w0 h hh => mm_close0 (s := { s with at_ := s.at_ + 8, left := s.left - 1, out := s.out ++ [(BitP.numL B s.at_ 8)] }) (by show s.kind ≤ 0; omega) hh)))
end Go.Proofs.Ytoplcgkafaoafaa

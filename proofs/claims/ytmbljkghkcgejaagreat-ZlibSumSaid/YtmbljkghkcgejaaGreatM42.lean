/- Walks of functions that the law reaches, and what they lean on; no conditions. -/
import Derived.Test.YtmbljkghkcgejaaGreatM30
import Derived.Test.YtmbljkghkcgejaaGreatSl22
import Derived.KernelRfl
import Derived.Test.YtmbljkghkcgejaaGreatM41
import Derived.Test.YtmbljkghkcgejaaGreatM32
set_option linter.unusedVariables false
set_option linter.unusedSimpArgs false
set_option maxRecDepth 100000
namespace Go.Proofs.YtmbljkghkcgejaaGreat
open Go.Sl 
theorem TTZiT : okT Tryz.prog ⟨[], [(75, 0, 0), (75, 6, 6), (75, 7, 7), (75, 11, 11), (75, 12, 12)]⟩ = true := by kernel_rfl
attribute [local irreducible] HuffP.newE HuffP.tk HuffP.ord HuffP.cntL HuffP.words HuffP.mostL InfP.frs InfP.toldC InfP.toldN InfP.toldA InfP.hL InfP.hD InfP.hC InfP.lnGo InfP.told InfP.fixL InfP.codeE InfP.rep InfP.lenE InfP.awayE InfP.sym InfP.alg BitP.numL InfP.coded InfP.begin_ InfP.put_
theorem c_putO (b bl : Nat) (sz mo : Int) (po : Option Addr) (co : Nat) (li di : Value) (s : InfP.St) (yb : Int) (hy : 0 ≤ yb ∧ yb < 256) (hm : mo < 1000000000) : Ctr Tryz.prog 52 [.pointer (some ⟨b, 0, none⟩), .int .u8 yb] [Cel b 75 [.pointer (some ⟨bl, 0, none⟩), .int .i64 sz, .int .i64 mo, .slice po s.out.length co, .bool s.ended, .int .i64 0, .int .i64 s.kind, .int .i64 (s.left : Int), .bool s.last, li, di, .int .i64 (s.copies : Int), .int .i64 (s.far : Int)], Row U5 po s.out.length co s.out] (PostE (InfP.put_ mo s yb) (fun s2 v G => v = .tuple #[] ∧ G = [MS b bl sz mo li di s2]) [MX b bl sz mo]) :=
 Ctr.fold (c_put1 b bl sz mo li di s yb hy hm) (fun w0 h hh => ms_close rfl hh)
set_option maxHeartbeats 4000000 in
theorem c_coded (b bl : Nat) (sz mo : Int) (l d : Nat) (s : InfP.St) (B : List Int) (hl : B.length < 500000000) (hB : BitP.Byt B) (hm : mo < 1000000000) (hok : InfP.Ok B mo s) (hk : 0 < s.kind) : Ctr Tryz.prog 54 [.pointer (some ⟨b, 0, none⟩)] [MS b bl sz mo (.pointer (some ⟨l, 0, none⟩)) (.pointer (some ⟨d, 0, none⟩)) s, LW bl B s.at_ [] 0, HC l s.lits, HC d s.dist] (PostE (InfP.coded B mo s) (fun s2 v G => v = .tuple #[] ∧ G = [MM b bl sz mo B s2]) [MX b bl sz mo]) := by
 refine spec_of [(0, _)] Tryz.func54 rfl Tryz.ntmps54 rfl rfl ?_
 intro w0 F
 refine w_opn (fun h hh => hh) ?_
 rintro ⟨po, co⟩ _
 dsimp only
 obtain ⟨hE1, hE2, hz1, hz2⟩ := hok.codes hk
 have ha := hok.at_
 have hll := InfP.code_len hE1
 have hro := hok.room
 rcases (InfP.sym_or (B := B) (ls := s.lits) (a := s.at_) hE1 hz1) with ⟨e, hs⟩ | ⟨sy, a1, hs, hy0, hy1, ha0, ha1⟩
 ·refine rT TTZiT 1 rfl ?_
  refine wN [pz 0 [] [0], pz 1 [0] [], pz 3 [1] [], pz 7 [2] [], pz 0 [] [0], pz 16 [4] [], pz 48 [5] [], pz 112 [6] [], pz 255 [3, 7] [], pz 511 [8] []] [⟨fun y => Cel b 75 [.pointer (some ⟨bl, 0, none⟩), .int .i64 sz, .int .i64 mo, .slice po s.out.length co, .bool s.ended, .int .i64 0, .int .i64 s.kind, .int .i64 (s.left : Int), .bool s.last, (.pointer (some ⟨l, 0, none⟩)), (.pointer (some ⟨d, 0, none⟩)), .int .i64 (s.copies : Int), .int .i64 (s.far : Int)], none, none, [3, 7, 8]⟩, ⟨fun y => Row U5 po s.out.length co s.out, none, none, []⟩, ⟨fun y => LW bl B s.at_ [] 0, none, none, [8]⟩, ⟨fun y => HC l s.lits, none, none, [8]⟩, ⟨fun y => HC d s.dist, none, none, []⟩] F V.mixed ?_
  refine nM ?_
  refine nN ?_
  refine nG V.f75_9 ?_
  refine nR (fun y FF hA => v_load V.s73 rfl mm0 rfl) ?_
  refine nM ?_
  refine nN ?_
  refine nG V.f75_0 ?_
  refine nR (fun y FF hA => v_load V.s71 rfl mm0 rfl) ?_
  refine net_pan (undef) _ _ (fun y => rfl) rfl (fun y => rfl) (fun y FF hA => st_callE ((c_sym l s.lits bl B s.at_ [] 0 hE1 hl hB ha).err hs) V.b66 rfl (.cons rr2 (.cons rr1 .nil)) (by rintro _ _ ⟨hp, rfl⟩; exact x_pe (InfP.cod_e hs) hp (fold' (rz1 .nil) (by exact dp0 (M := FF) (F := F)) (fun w0 h hh => mx_close hh)))) ?_
  refine net_pan (.bool true) _ _ (fun y => rfl) rfl (fun y => rfl) (fun y FF hA => (KnN.fact (hA 8 (by decide)) (q := fun _ => False) rfl).elim) ?_
  refine net_nil ?_
  intro y hA
  exact (KnN.fact (hA 8 (by exact Nat.le_of_ble_eq_true rfl)) (q := fun _ => False) rfl).elim
 ·refine rT TTZiT 1 rfl ?_
  refine wN [pz 0 [] [0], pz 1 [0] [], pz 3 [1] [], pz 7 [2] [], pz 0 [] [0], pz 16 [4] [], pz 48 [5] [], pz 112 [6] [], pz 255 [3, 7] [], pz 511 [8] []] [⟨fun y => Cel b 75 [.pointer (some ⟨bl, 0, none⟩), .int .i64 sz, .int .i64 mo, .slice po s.out.length co, .bool s.ended, .int .i64 0, .int .i64 s.kind, .int .i64 (s.left : Int), .bool s.last, (.pointer (some ⟨l, 0, none⟩)), (.pointer (some ⟨d, 0, none⟩)), .int .i64 (s.copies : Int), .int .i64 (s.far : Int)], none, none, [3, 7]⟩, ⟨fun y => Row U5 po s.out.length co s.out, none, none, []⟩, ⟨fun y => LW bl B s.at_ [] 0, none, some 8, []⟩, ⟨fun y => HC l s.lits, none, some 8, []⟩, ⟨fun y => HC d s.dist, none, none, []⟩, ⟨fun y => HC l s.lits, some 8, none, []⟩, ⟨fun y => LW bl B a1 [] 0, some 8, none, []⟩] F V.mixed ?_
  refine nM ?_
  refine nN ?_
  refine nG V.f75_9 ?_
  refine nR (fun y FF hA => v_load V.s73 rfl mm0 rfl) ?_
  refine nM ?_
  refine nN ?_
  refine nG V.f75_0 ?_
  refine nR (fun y FF hA => v_load V.s71 rfl mm0 rfl) ?_
  refine nE (fun y FF hA => st_callN (Post := [HC l s.lits, LW bl B a1 [] 0]) ((c_sym l s.lits bl B s.at_ [] 0 hE1 hl hB ha).ok hs) V.b66 rfl (.cons rr1 (rz1 .nil)) (fun v G h => by rcases h with ⟨rfl, rfl⟩; exact ⟨rfl, .refl _⟩)) ?_
  refine nA ?_
  refine net_nil ?_
  intro y hA
  clear hA
  refine thn_n ?_
  refine w_keep _ (.cons (d := 0) rfl (.cons (d := 2) rfl (.nil _))) ?_
  refine w_sub (M := Cel b 75 [.pointer (some ⟨bl, 0, none⟩), .int .i64 sz, .int .i64 mo, .slice po s.out.length co, .bool s.ended, .int .i64 0, .int .i64 s.kind, .int .i64 (s.left : Int), .bool s.last, (.pointer (some ⟨l, 0, none⟩)), (.pointer (some ⟨d, 0, none⟩)), .int .i64 (s.copies : Int), .int .i64 (s.far : Int)] :: Row U5 po s.out.length co s.out :: HC d s.dist :: HC l s.lits :: LW bl B a1 [] 0 :: F) (fun _ _ h => h) ?_
  refine rC TTZiT 8 rfl ?_
  refine w_condD rfl (fun h36 => ?_) (fun h36 => ?_)
  ·rcases (InfP.ex_or (InfP.put_ mo { s with at_ := a1 } sy)) with ⟨e, hp⟩ | ⟨s2, hp⟩
   ·refine rC TTZiT 3 rfl ?_
    refine oV (v_conv V.u3 Tryz.underlying5 rfl (wrap8 (by omega) (by omega))) ?_
    refine o_callE ((c_putO b bl sz mo po co (.pointer (some ⟨l, 0, none⟩)) (.pointer (some ⟨d, 0, none⟩)) { s with at_ := a1 } sy (by omega) hm).err hp) V.b52 rfl (rz2 .nil) ?_
    rintro _ _ ⟨hpe, rfl⟩
    refine (blk_p ?_)
    exact pe_pan ((InfP.cod_put hs (by omega)).trans hp) hpe (sub (rz1 .nil) dd3)
   ·refine rC TTZiT 3 rfl ?_
    refine oV (v_conv V.u3 Tryz.underlying5 rfl (wrap8 (by omega) (by omega))) ?_
    refine o_call ((c_putO b bl sz mo po co (.pointer (some ⟨l, 0, none⟩)) (.pointer (some ⟨d, 0, none⟩)) { s with at_ := a1 } sy (by omega) hm).ok hp) V.b52  rfl (rz2 .nil) rfl ?_
    rintro _ _ ⟨rfl, rfl⟩
    refine rO TTZiT 2 rfl ?_
    obtain ⟨_, rfl⟩ := InfP.put_ok hp
    exact pe_end ((InfP.cod_put hs (by omega)).trans hp) res0 ⟨rfl, rfl⟩ (fold' (rz1 (.cons rr2 (.cons rr1 (.cons rr0 .nil)))) dd0 (fun w0 h hh => mm_closeC (s := { s with at_ := a1, out := s.out ++ [sy] }) hh))
  ·refine rC TTZiT 7 rfl ?_
   refine w_condD rfl (fun h43 => ?_) (fun h43 => ?_)
   ·refine rC TTZiT 2 rfl ?_
    refine o_call (c_close b bl sz mo po s.out.length co (.pointer (some ⟨l, 0, none⟩)) (.pointer (some ⟨d, 0, none⟩)) s) V.b55  rfl (rz1 .nil) rfl ?_
    rintro _ _ ⟨rfl, rfl⟩
    refine rO TTZiT 2 rfl ?_
    exact pe_end (x := { s with at_ := a1, kind := -1, ended := s.last }) (InfP.cod_end hs (by omega)) res0 ⟨rfl, rfl⟩ ((fold' (rz2 .nil) .refl (fun w0 h hh => ms_close (s := { s with at_ := a1, kind := -1, ended := s.last }) rfl hh)).trans (fold' (rz1 (.cons rr2 (.cons rr1 (.cons rr0 .nil)))) dd0 (fun w0 h hh => mm_closeC (s := { s with at_ := a1, kind := -1, ended := s.last }) hh)))
   ·rcases (InfP.len_or (B := B) (s := sy - 257) (a := a1) (by omega) ha1) with ⟨e, hn⟩ | ⟨n, a2, hn, hn0, hn1, hn2, hn3⟩
    ·refine rCs TTZiT 6 rfl (by omega) ?_
     refine oV (v_sub (r := sy - 257) rfl rfl (by rw [show sy - 256 - 1 = sy - 257 from by omega]; exact wrapI (by omega) (by omega))) ?_
     refine o_callE ((c_length b bl sz mo po s.out.length co (.pointer (some ⟨l, 0, none⟩)) (.pointer (some ⟨d, 0, none⟩)) s B a1 (sy - 257) (by omega) hl hB ha1).err hn) V.b67 rfl (rz1 (.cons rr3 .nil)) ?_
     rintro _ _ ⟨hpe, rfl⟩
     refine (thn_p (blk_p ?_))
     exact pe_pan (InfP.cod_l hs (by omega) hn) hpe (sub (rz1 .nil) dd3)
    ·refine rCs TTZiT 6 rfl (by omega) ?_
     refine oV (v_sub (r := sy - 257) rfl rfl (by rw [show sy - 256 - 1 = sy - 257 from by omega]; exact wrapI (by omega) (by omega))) ?_
     refine o_call ((c_length b bl sz mo po s.out.length co (.pointer (some ⟨l, 0, none⟩)) (.pointer (some ⟨d, 0, none⟩)) s B a1 (sy - 257) (by omega) hl hB ha1).ok hn) V.b67  rfl (rz1 (.cons rr3 .nil)) rfl ?_
     rintro _ _ ⟨rfl, rfl⟩
     refine rO TTZiT 2 rfl ?_
     refine o_eff (v_store V.s3 rfl rfl rfl (by exact pp0) (by exact Nat.le_of_ble_eq_true rfl) rfl) ?_
     refine rO TTZiT 2 rfl ?_
     rcases (InfP.away_or (B := B) (ds := s.dist) (a := a2) hE2 hz2) with ⟨e, hf⟩ | ⟨f, a3, hf, hf0, hf1, hf2, hf3⟩
     ·refine rC TTZiT 4 rfl ?_
      refine o_callE ((c_away b bl sz mo po s.out.length co (.pointer (some ⟨l, 0, none⟩)) d { s with copies := n } B s.dist a2 hE2 hz2 hl hB hn3).err hf) V.b68 rfl (rz1 (.cons rr2 (.cons rr0 .nil))) ?_
      rintro _ _ ⟨hpe, rfl⟩
      refine (thn_p (blk_p ?_))
      exact pe_pan (InfP.cod_a hs (by omega) hn hf) hpe (sub (rz1 .nil) dd2)
     ·refine rC TTZiT 4 rfl ?_
      refine o_call ((c_away b bl sz mo po s.out.length co (.pointer (some ⟨l, 0, none⟩)) d { s with copies := n } B s.dist a2 hE2 hz2 hl hB hn3).ok hf) V.b68  rfl (rz1 (.cons rr2 (.cons rr0 .nil))) rfl ?_
      rintro _ _ ⟨rfl, rfl⟩
      refine rO TTZiT 2 rfl ?_
      refine o_eff (v_store V.s3 rfl rfl rfl (by exact pp0) (by exact Nat.le_of_ble_eq_true rfl) rfl) ?_
      refine rO TTZiT 2 rfl ?_
      rcases (Classical.em (f ≤ s.out.length)) with hfo | hfo
      ·refine wN [pz 0 [] [0], pz 1 [0] [], pz 3 [1] [], pz 7 [2] [], pz 0 [] [0], pz 16 [4] [], pz 48 [5] [], pz 112 [6] [], pz 240 [7] [], pz 511 [3, 8] [], pz 1023 [9] []] [⟨fun y => Cel b 75 [.pointer (some ⟨bl, 0, none⟩), .int .i64 sz, .int .i64 mo, .slice po s.out.length co, .bool s.ended, .int .i64 0, .int .i64 s.kind, .int .i64 (s.left : Int), .bool s.last, (.pointer (some ⟨l, 0, none⟩)), (.pointer (some ⟨d, 0, none⟩)), .int .i64 (n : Int), .int .i64 (f : Int)], none, none, [3, 7]⟩, ⟨fun y => HC d s.dist, none, none, []⟩, ⟨fun y => LW bl B a3 [] 0, none, none, []⟩, ⟨fun y => Row U5 po s.out.length co s.out, none, none, []⟩, ⟨fun y => HC l s.lits, none, none, []⟩] F V.mixed ?_
       refine nM ?_
       refine nN ?_
       refine nG V.f75_12 ?_
       refine nR (fun y FF hA => v_load V.s3 rfl mm0 rfl) ?_
       refine nM ?_
       refine nN ?_
       refine nG V.f75_3 ?_
       refine nR (fun y FF hA => v_load V.s22 rfl mm0 rfl) ?_
       refine nV (fun y hA L => v_len (ty' := 0) Tryz.underlying22 rfl) ?_
       refine nV (fun y hA L => v_T (v_leq rfl rfl) (by omega)) ?_
       refine nE (fun y FF hA => st_callN (Post := []) (c_must 4) V.b62 rfl .nil (fun v G h => by rcases h with ⟨rfl, rfl⟩; exact ⟨rfl, .refl _⟩)) ?_
       refine net_nil ?_
       intro y hA
       clear hA
       show blk _ _ _ _ (Cel b 75 [.pointer (some ⟨bl, 0, none⟩), .int .i64 sz, .int .i64 mo, .slice po s.out.length co, .bool s.ended, .int .i64 0, .int .i64 s.kind, .int .i64 (s.left : Int), .bool s.last, (.pointer (some ⟨l, 0, none⟩)), (.pointer (some ⟨d, 0, none⟩)), .int .i64 (n : Int), .int .i64 (f : Int)] :: HC d s.dist :: LW bl B a3 [] 0 :: Row U5 po s.out.length co s.out :: HC l s.lits :: F)
       refine blk_n ?_
       exact pe_end (x := { s with at_ := a3, copies := n, far := f }) (InfP.cod_y hs (by omega) hn hf (by omega)) res0 ⟨rfl, rfl⟩ ((fold' (rz1 (.cons rr2 .nil)) .refl (fun w0 h hh => ms_close (s := { s with at_ := a3, copies := n, far := f }) rfl hh)).trans (fold' (rz1 (.cons rr1 (.cons rr1 (.cons rr0 .nil)))) dd0 (fun w0 h hh => mm_closeC (s := { s with at_ := a3, copies := n, far := f }) hh)))
      ·refine wN [pz 0 [] [0], pz 1 [0] [], pz 3 [1] [], pz 7 [2] [], pz 0 [] [0], pz 16 [4] [], pz 48 [5] [], pz 112 [6] [], pz 240 [7] [], pz 511 [3, 8] [], pz 1023 [9] []] [⟨fun y => Cel b 75 [.pointer (some ⟨bl, 0, none⟩), .int .i64 sz, .int .i64 mo, .slice po s.out.length co, .bool s.ended, .int .i64 0, .int .i64 s.kind, .int .i64 (s.left : Int), .bool s.last, (.pointer (some ⟨l, 0, none⟩)), (.pointer (some ⟨d, 0, none⟩)), .int .i64 (n : Int), .int .i64 (f : Int)], none, none, [3, 7, 10]⟩, ⟨fun y => HC d s.dist, none, none, []⟩, ⟨fun y => LW bl B a3 [] 0, none, none, []⟩, ⟨fun y => Row U5 po s.out.length co s.out, none, none, []⟩, ⟨fun y => HC l s.lits, none, none, []⟩] F V.mixed ?_
       refine nM ?_
       refine nN ?_
       refine nG V.f75_12 ?_
       refine nR (fun y FF hA => v_load V.s3 rfl mm0 rfl) ?_
       refine nM ?_
       refine nN ?_
       refine nG V.f75_3 ?_
       refine nR (fun y FF hA => v_load V.s22 rfl mm0 rfl) ?_
       refine nV (fun y hA L => v_len (ty' := 0) Tryz.underlying22 rfl) ?_
       refine nV (fun y hA L => v_F (v_leq rfl rfl) (by omega)) ?_
       refine net_pan (undef) _ _ (fun y => rfl) rfl (fun y => rfl) (fun y FF hA => st_callE (c_mustE 4) V.b62 rfl .nil (by rintro _ _ ⟨rfl, rfl⟩; exact x_pe (InfP.cod_n hs (by omega) hn hf (by omega)) (PE.no (by decide)) (fold' (rz1 .nil) (by exact dp0 (M := FF) (F := F)) (fun w0 h hh => mx_close hh)))) ?_
       refine net_nil ?_
       intro y hA
       exact (KnN.fact (hA 10 (by exact Nat.le_of_ble_eq_true rfl)) (q := fun _ => False) rfl).elim
set_option maxHeartbeats 4000000 in
theorem c_one (b bl : Nat) (sz mo : Int) (s : InfP.St) (B : List Int) (hl : B.length < 500000000) (hB : BitP.Byt B) (hm : mo < 1000000000) (hok : InfP.Ok B mo s) : Ctr Tryz.prog 39 [.pointer (some ⟨b, 0, none⟩)] [MM b bl sz mo B s] (PostE (InfP.one B mo s) (fun s2 v G => v = .tuple #[] ∧ G = [MM b bl sz mo B s2]) [MX b bl sz mo]) := by
 refine spec_of [(0, _)] Tryz.func39 rfl Tryz.ntmps39 rfl rfl ?_
 intro w0 F
 refine w_opn (fun h hh => hh) ?_
 rintro ⟨li, di⟩ _
 dsimp only
 refine w_opn (fun h hh => hh) ?_
 rintro ⟨po, co⟩ _
 dsimp only
 simp only [List.cons_append, List.nil_append]
 have ha := hok.at_
 have hro := hok.room
 have hcp := hok.copies
 have hlf := hok.left
 have hnb := BitP.numL_bound B s.at_ 8
 refine rT TTZiT 6 rfl ?_
 refine oV (v_load V.s3 rfl mm0 rfl) ?_
 refine rO TTZiT 4 rfl ?_
 refine w_condD rfl (fun h17 => ?_) (fun h17 => ?_)
 ·rcases (InfP.ex_or (InfP.put_ mo s (U5.g s.out ((s.out.length : Int) - (s.far : Int))))) with ⟨e, hp⟩ | ⟨s2, hp⟩
  ·refine rC TTZiT 1 rfl ?_
   have hcs : 0 < s.copies := by omega
   have hfr := hok.far hcs
   have hge : U5.g s.out ((s.out.length : Int) - (s.far : Int)) = s.out.getD (s.out.length - s.far) 0 := gE _ (by omega)
   refine wN [pz 0 [] [0], pz 0 [] [0], pz 2 [1] [], pz 6 [2] [], pz 14 [3] [], pz 0 [] [0], pz 32 [5] [], pz 96 [6] [], pz 224 [7] [], pz 480 [8] [], pz 0 [] [0], pz 1024 [10] [], pz 3072 [11] [], pz 7168 [12] [], pz 16352 [9, 13] [], pz 32766 [4, 14] [], pz 65534 [15] [], pz 131071 [0, 16] []] [⟨fun y => Cel b 75 [.pointer (some ⟨bl, 0, none⟩), .int .i64 sz, .int .i64 mo, .slice po s.out.length co, .bool s.ended, .int .i64 0, .int .i64 s.kind, .int .i64 (s.left : Int), .bool s.last, li, di, .int .i64 (s.copies : Int), .int .i64 (s.far : Int)], none, none, [4, 8, 13, 17]⟩, ⟨fun y => Row U5 po s.out.length co s.out, none, none, [15, 16, 17]⟩, ⟨fun y => LW bl B s.at_ [] 0, none, none, []⟩, ⟨fun y => CD li di s, none, none, []⟩] F V.mixed ?_
   iterate 2 refine nM ?_
   refine nN ?_
   refine nG V.f75_3 ?_
   refine nR (fun y FF hA => v_load V.s22 rfl mm0 rfl) ?_
   refine nM ?_
   refine nN ?_
   refine nG V.f75_3 ?_
   refine nR (fun y FF hA => v_load V.s22 rfl mm0 rfl) ?_
   refine nV (fun y hA L => v_len (ty' := 0) Tryz.underlying22 rfl) ?_
   refine nM ?_
   refine nN ?_
   refine nG V.f75_12 ?_
   refine nR (fun y FF hA => v_load V.s3 rfl mm0 rfl) ?_
   refine nV (fun y hA L => v_sub rfl rfl wI) ?_
   refine nR (fun y FF hA => xI V.sl22 (own mm0)) ?_
   refine nR (fun y FF hA => xL V.s5 (own mm0)) ?_
   refine net_pan (undef) _ _ (fun y => rfl) rfl (fun y => rfl) (fun y FF hA => st_callE ((c_putO b bl sz mo po co li di s (U5.g s.out ((s.out.length : Int) - (s.far : Int))) (by rw [hge]; exact hok.byt.get _) hm).err hp) V.b52 rfl (rz2 .nil) (by rintro _ _ ⟨hpe, rfl⟩; exact x_pe (InfP.one_ce hcs (by rw [← hge]; exact hp)) hpe (sub (rz1 .nil) (by exact dp0 (M := FF) (F := F))))) ?_
   refine net_nil ?_
   intro y hA
   exact (KnN.fact (hA 17 (by exact Nat.le_of_ble_eq_true rfl)) (q := fun _ => False) rfl).elim
  ·refine rC TTZiT 1 rfl ?_
   have hcs : 0 < s.copies := by omega
   have hfr := hok.far hcs
   have hge : U5.g s.out ((s.out.length : Int) - (s.far : Int)) = s.out.getD (s.out.length - s.far) 0 := gE _ (by omega)
   refine wN [pz 0 [] [0], pz 0 [] [0], pz 2 [1] [], pz 6 [2] [], pz 14 [3] [], pz 0 [] [0], pz 32 [5] [], pz 96 [6] [], pz 224 [7] [], pz 480 [8] [], pz 0 [] [0], pz 1024 [10] [], pz 3072 [11] [], pz 7168 [12] [], pz 16352 [9, 13] [], pz 32766 [4, 14] [], pz 65534 [15] [], pz 131071 [0, 16] []] [⟨fun y => Cel b 75 [.pointer (some ⟨bl, 0, none⟩), .int .i64 sz, .int .i64 mo, .slice po s.out.length co, .bool s.ended, .int .i64 0, .int .i64 s.kind, .int .i64 (s.left : Int), .bool s.last, li, di, .int .i64 (s.copies : Int), .int .i64 (s.far : Int)], none, some 17, [4, 8, 13]⟩, ⟨fun y => Row U5 po s.out.length co s.out, none, some 17, [15, 16]⟩, ⟨fun y => LW bl B s.at_ [] 0, none, none, []⟩, ⟨fun y => CD li di s, none, none, []⟩, ⟨fun y => MS b bl sz mo li di s2, some 17, none, []⟩] F V.mixed ?_
   iterate 2 refine nM ?_
   refine nN ?_
   refine nG V.f75_3 ?_
   refine nR (fun y FF hA => v_load V.s22 rfl mm0 rfl) ?_
   refine nM ?_
   refine nN ?_
   refine nG V.f75_3 ?_
   refine nR (fun y FF hA => v_load V.s22 rfl mm0 rfl) ?_
   refine nV (fun y hA L => v_len (ty' := 0) Tryz.underlying22 rfl) ?_
   refine nM ?_
   refine nN ?_
   refine nG V.f75_12 ?_
   refine nR (fun y FF hA => v_load V.s3 rfl mm0 rfl) ?_
   refine nV (fun y hA L => v_sub rfl rfl wI) ?_
   refine nR (fun y FF hA => xI V.sl22 (own mm0)) ?_
   refine nR (fun y FF hA => xL V.s5 (own mm0)) ?_
   refine nE (fun y FF hA => st_callN (Post := [MS b bl sz mo li di s2]) ((c_putO b bl sz mo po co li di s (U5.g s.out ((s.out.length : Int) - (s.far : Int))) (by rw [hge]; exact hok.byt.get _) hm).ok hp) V.b52 rfl (rz2 .nil) (fun v G h => by rcases h with ⟨rfl, rfl⟩; exact ⟨rfl, .refl _⟩)) ?_
   refine net_nil ?_
   intro y hA
   clear hA
   refine thn_n ?_
   refine w_keep _ (.cons (d := 0) rfl (.nil _)) ?_
   refine w_sub (M := LW bl B s.at_ [] 0 :: CD li di s :: MS b bl sz mo li di s2 :: F) (fun _ _ h => h) ?_
   obtain ⟨hroom, rfl⟩ := InfP.put_ok hp
   refine w_opnR rr2 (fun h hh => ms_open hh) ?_
   rintro ⟨po2, co2⟩ _
   dsimp only
   simp only [List.cons_append, List.nil_append]
   refine rC TTZiT 4 rfl ?_
   refine oV (v_load V.s3 rfl mm0 rfl) ?_
   refine rOs TTZiT 3 rfl (by omega) ?_
   refine o_eff (v_store V.s3 rfl rfl rfl (by exact pp0) (by exact Nat.le_of_ble_eq_true rfl) rfl) ?_
   refine rO TTZiT 2 rfl ?_
   rw [show (s.copies : Int) - 1 = ((s.copies - 1 : Nat) : Int) from by omega]
   exact pe_end (x := { s with copies := s.copies - 1, out := s.out ++ [(U5.g s.out ((s.out.length : Int) - (s.far : Int)))] }) (by rw [hge]; exact InfP.one_cy hcs hroom) res0 ⟨rfl, rfl⟩ ((fold' (rz2 .nil) .refl (fun w0 h hh => ms_close (s := { s with copies := s.copies - 1, out := s.out ++ [(U5.g s.out ((s.out.length : Int) - (s.far : Int)))] }) (by simp) hh)).trans (fold' (rz3 .nil) dd0 (fun w0 h hh => mm_closeD (s := { s with copies := s.copies - 1, out := s.out ++ [(U5.g s.out ((s.out.length : Int) - (s.far : Int)))] }) hh)))
 ·refine rC TTZiT 5 rfl ?_
  refine oV (v_load V.s3 rfl mm0 rfl) ?_
  refine rO TTZiT 4 rfl ?_
  refine w_condD rfl (fun h48 => ?_) (fun h48 => ?_)
  ·rcases (InfP.ex_or (InfP.begin_ B s)) with ⟨e, hp⟩ | ⟨s2, hp⟩
   ·have hcs : ¬ 0 < s.copies := by omega
    have hk1 : s.kind = -1 := by omega
    refine w_sub (fold' (rz2 .nil) .refl (fun w0 h hh => ms_close (s := s) rfl hh)) ?_
    refine rC TTZiT 2 rfl ?_
    refine o_callE ((c_begin b bl sz mo li di s B hl hB ha).err hp) V.b53 rfl (rz2 .nil) ?_
    rintro _ _ ⟨hpe, rfl⟩
    refine (blk_p ?_)
    exact pe_pan ((InfP.one_b hcs hk1).trans hp) hpe (sub (rz1 .nil) dd1)
   ·have hcs : ¬ 0 < s.copies := by omega
    have hk1 : s.kind = -1 := by omega
    refine w_sub (fold' (rz2 .nil) .refl (fun w0 h hh => ms_close (s := s) rfl hh)) ?_
    refine rC TTZiT 2 rfl ?_
    refine o_call ((c_begin b bl sz mo li di s B hl hB ha).ok hp) V.b53  rfl (rz2 .nil) rfl ?_
    rintro _ _ ⟨rfl, rfl⟩
    refine rO TTZiT 2 rfl ?_
    exact pe_end ((InfP.one_b hcs hk1).trans hp) res0 ⟨rfl, rfl⟩ (sub (rz1 .nil) dd1)
  ·refine rC TTZiT 5 rfl ?_
   refine oV (v_load V.s3 rfl mm0 rfl) ?_
   refine rO TTZiT 4 rfl ?_
   refine w_condD rfl (fun h56 => ?_) (fun h56 => ?_)
   ·rcases (InfP.ex_or (InfP.coded B mo s)) with ⟨e, hp⟩ | ⟨s2, hp⟩
    ·have hcs : ¬ 0 < s.copies := by omega
     have hk1 : ¬ s.kind = -1 := by omega
     have hk0 : s.kind ≠ 0 := by omega
     have hkp : 0 < s.kind := by have := hok.kind; omega
     refine w_opnR rr3 (fun h hh => cd_open hkp hh) ?_
     rintro ⟨l, d⟩ ⟨h1, h2⟩
     dsimp only at h1 h2
     subst h1
     subst h2
     simp only [List.cons_append, List.nil_append]
     refine w_sub (fold' (.cons rr2 (.cons rr2 .nil)) .refl (fun w0 h hh => ms_close (s := s) rfl hh)) ?_
     refine rC TTZiT 2 rfl ?_
     refine o_callE ((c_coded b bl sz mo l d s B hl hB hm hok hkp).err hp) V.b54 rfl (rz1 (.cons rr2 (.cons rr0 (.cons rr0 .nil)))) ?_
     rintro _ _ ⟨hpe, rfl⟩
     refine (blk_p ?_)
     exact pe_pan ((InfP.one_c hcs hk1 hk0).trans hp) hpe (sub (rz1 .nil) dd0)
    ·have hcs : ¬ 0 < s.copies := by omega
     have hk1 : ¬ s.kind = -1 := by omega
     have hk0 : s.kind ≠ 0 := by omega
     have hkp : 0 < s.kind := by have := hok.kind; omega
     refine w_opnR rr3 (fun h hh => cd_open hkp hh) ?_
     rintro ⟨l, d⟩ ⟨h1, h2⟩
     dsimp only at h1 h2
     subst h1
     subst h2
     simp only [List.cons_append, List.nil_append]
     refine w_sub (fold' (.cons rr2 (.cons rr2 .nil)) .refl (fun w0 h hh => ms_close (s := s) rfl hh)) ?_
     refine rC TTZiT 2 rfl ?_
     refine o_call ((c_coded b bl sz mo l d s B hl hB hm hok hkp).ok hp) V.b54  rfl (rz1 (.cons rr2 (.cons rr0 (.cons rr0 .nil)))) rfl ?_
     rintro _ _ ⟨rfl, rfl⟩
     refine rO TTZiT 2 rfl ?_
     exact pe_end ((InfP.one_c hcs hk1 hk0).trans hp) res0 ⟨rfl, rfl⟩ (sub (rz1 .nil) dd0)
   ·refine rC TTZiT 5 rfl ?_
    refine oV (v_load V.s3 rfl mm0 rfl) ?_
    refine rO TTZiT 4 rfl ?_
    refine w_condD rfl (fun h64 => ?_) (fun h64 => ?_)
    ·have hcs : ¬ 0 < s.copies := by omega
     have hk1 : ¬ s.kind = -1 := by omega
     have hk0 : s.kind = 0 := by omega
     have hl0 : s.left = 0 := by omega
     refine rC TTZiT 2 rfl ?_
     refine o_call (c_close b bl sz mo po s.out.length co li di s) V.b55  rfl (rz1 .nil) rfl ?_
     rintro _ _ ⟨rfl, rfl⟩
     refine rO TTZiT 2 rfl ?_
     exact pe_end (x := { s with kind := -1, ended := s.last }) (InfP.one_l0 hcs hk1 hk0 hl0) res0 ⟨rfl, rfl⟩ ((fold' (rz2 .nil) .refl (fun w0 h hh => ms_close (s := { s with kind := -1, ended := s.last }) rfl hh)).trans (fold' (rz2 .nil) dd1 (fun w0 h hh => mm_close0 (s := { s with kind := -1, ended := s.last }) (by show (-1 : Int) ≤ 0; decide) hh)))
    ·rcases (InfP.put_or B s.at_ mo { s with at_ := s.at_ + 8 } (BitP.numL B s.at_ 8)) with hx | ⟨hx, e, hp⟩ | ⟨hx, s2, hp⟩
     ·refine rC TTZiT 1 rfl ?_
      have hcs : ¬ 0 < s.copies := by omega
      have hk1 : ¬ s.kind = -1 := by omega
      have hk0 : s.kind = 0 := by omega
      have hl0 : ¬ s.left = 0 := by omega
      refine rC TTZiT 5 rfl ?_
      refine oV (v_load V.s71 rfl mm0 rfl) ?_
      refine o_callE (c_takeE bl B s.at_ [] 0 8 hl hB (by omega) (by omega) (by omega)) V.b56 rfl (.cons rr2 .nil) ?_
      rintro _ _ ⟨rfl, rfl⟩
      refine (thn_p (blk_p ?_))
      exact pe_pan (InfP.one_ls hcs hk1 hk0 hl0 hx) PE.end_ (fold' (.cons rr1 .nil) dd3 (fun w0 h hh => mx_close hh))
     ·refine rC TTZiT 1 rfl ?_
      have hcs : ¬ 0 < s.copies := by omega
      have hk1 : ¬ s.kind = -1 := by omega
      have hk0 : s.kind = 0 := by omega
      have hl0 : ¬ s.left = 0 := by omega
      refine rC TTZiT 5 rfl ?_
      refine oV (v_load V.s71 rfl mm0 rfl) ?_
      refine o_call (c_take bl B s.at_ [] 0 8 hl hB (by omega) (by omega)) V.b56  rfl (.cons rr2 .nil) rfl ?_
      rintro _ _ ⟨rfl, rfl⟩
      refine oV (v_conv V.u3 Tryz.underlying5 rfl (wrap8 (by omega) (by omega))) ?_
      refine o_callE ((c_putO b bl sz mo po co li di s (BitP.numL B s.at_ 8) (by omega) hm).err (InfP.put_er hp)) V.b52 rfl (.cons rr1 (.cons rr1 .nil)) ?_
      rintro _ _ ⟨hpe, rfl⟩
      refine (thn_p (blk_p ?_))
      exact pe_pan (InfP.one_le hcs hk1 hk0 hl0 hx hp) hpe (sub (rz1 .nil) dd2)
     ·refine rC TTZiT 1 rfl ?_
      have hcs : ¬ 0 < s.copies := by omega
      have hk1 : ¬ s.kind = -1 := by omega
      have hk0 : s.kind = 0 := by omega
      have hl0 : ¬ s.left = 0 := by omega
      refine rC TTZiT 5 rfl ?_
      refine oV (v_load V.s71 rfl mm0 rfl) ?_
      refine o_call (c_take bl B s.at_ [] 0 8 hl hB (by omega) (by omega)) V.b56  rfl (.cons rr2 .nil) rfl ?_
      rintro _ _ ⟨rfl, rfl⟩
      refine oV (v_conv V.u3 Tryz.underlying5 rfl (wrap8 (by omega) (by omega))) ?_
      refine o_call ((c_putO b bl sz mo po co li di { s with at_ := s.at_ + 8 } (BitP.numL B s.at_ 8) (by omega) hm).ok hp) V.b52  rfl (.cons rr1 (.cons rr1 .nil)) rfl ?_
      rintro _ _ ⟨rfl, rfl⟩
      refine rO TTZiT 2 rfl ?_
      obtain ⟨hroom, rfl⟩ := InfP.put_ok hp
      refine w_opnR rr0 (fun h hh => ms_open hh) ?_
      rintro ⟨po2, co2⟩ _
      dsimp only
      simp only [List.cons_append, List.nil_append]
      refine rC TTZiT 4 rfl ?_
      refine oV (v_load V.s3 rfl mm0 rfl) ?_
      refine rOs TTZiT 3 rfl (by omega) ?_
      refine o_eff (v_store V.s3 rfl rfl rfl (by exact pp0) (by exact Nat.le_of_ble_eq_true rfl) rfl) ?_
      refine rO TTZiT 2 rfl ?_
      rw [show (s.left : Int) - 1 = ((s.left - 1 : Nat) : Int) from by omega]
      exact pe_end (x := { s with at_ := s.at_ + 8, left := s.left - 1, out := s.out ++ [(BitP.numL B s.at_ 8)] }) (InfP.one_ly hcs hk1 hk0 hl0 hx hroom) res0 ⟨rfl, rfl⟩ ((fold' (rz2 .nil) .refl (fun w0 h hh => ms_close (s := { s with at_ := s.at_ + 8, left := s.left - 1, out := s.out ++ [(BitP.numL B s.at_ 8)] }) (by simp) hh)).trans (fold' (rz2 .nil) dd1 (fun w0 h hh => mm_close0 (s := { s with at_ := s.at_ + 8, left := s.left - 1, out := s.out ++ [(BitP.numL B s.at_ 8)] }) (by show s.kind ≤ 0; omega) hh)))
end Go.Proofs.YtmbljkghkcgejaaGreat
namespace Go.Sl
section
variable {C : Ctx} {E : Env} {L : List HProp} {ty : TypeId}
def ifaceB (P : Program) (t : TypeId) : Bool := match P.underlying t with | some (.interface _) => true | _ => false
theorem run_equal_if {t T : TypeId} {is : Array (String × TypeId)} {u : Value} (ht : C.P.underlying t = some (.interface is)) (d : Nat) (w : World) : (Op.equalIn (d + 1) t (.iface T u) .nilIface).run C.P w = .ok false w := by
 simp [Op.equalIn, run_underlying ht]
theorem run_equal_nn {t : TypeId} {is : Array (String × TypeId)} (ht : C.P.underlying t = some (.interface is)) (d : Nat) (w : World) : (Op.equalIn (d + 1) t .nilIface .nilIface).run C.P w = .ok true w := by
 simp [Op.equalIn, run_underlying ht]
theorem v_eqnilI {x y : Operand} {t t' T : TypeId} {u : Value} (ht : ifaceB C.P t = true) (hx : evalE E x = some (.iface T u)) (hy : evalE E y = some .nilIface) : OpV C (.binOp .eql t x y t') ty E L (.bool false) L :=
 pureV fun d pos aft g a w ha => by
  unfold ifaceB at ht
  split at ht <;> try simp at ht
  rename_i is hds
  rw [run_bin d pos aft g (ha.eval hx) (ha.eval hy) (by simp [eqGuard])]
  have h := run_equal_if hds (T := T) (u := u) 9999 w
  simp only [binOp, Op.equal, Op.maxDepth, Sem.run_bind, h, Result.andThen_ok, Sem.run_pure]
theorem v_eqnilJ {x : Operand} {t t' : TypeId} (ht : ifaceB C.P t = true) (hx : evalE E x = some .nilIface) : OpV C (.binOp .eql t x (.const .nilIface) t') ty E L (.bool true) L :=
 pureV fun d pos aft g a w ha => by
  unfold ifaceB at ht
  split at ht <;> try simp at ht
  rename_i is hds
  rw [run_bin d pos aft g (ha.eval hx) (ha.eval (x := .const .nilIface) rfl) (by simp [eqGuard])]
  have h := run_equal_nn hds 9999 w
  simp only [binOp, Op.equal, Op.maxDepth, Sem.run_bind, h, Result.andThen_ok, Sem.run_pure]
theorem v_tassY {x : Operand} {xT T : TypeId} {u : Value} (hc : concB C.P T = true) (hx : evalE E x = some (.iface T u)) : OpV C (.typeAssert x xT T true) ty E L (.tuple #[u, .bool true]) L :=
 pureV fun d pos aft g a w ha => by
  unfold concB at hc
  split at hc <;> try simp at hc
  rename_i ds hne hds
  simp only [execOp, ha.eval hx, Instr.typeAssert, Sem.run_bind, run_underlying hds, Result.andThen_ok]
  cases ds <;> first | (exact absurd rfl (hne _)) | simp [Sem.run_pure]
theorem v_tassN {x : Operand} {xT T t : TypeId} {u z : Value} (hc : concB C.P T = true) (hz : (C.P.info? T).bind (·.zero) = some z) (hn : t ≠ T) (hx : evalE E x = some (.iface t u)) : OpV C (.typeAssert x xT T true) ty E L (.tuple #[z, .bool false]) L :=
 pureV fun d pos aft g a w ha => by
  unfold concB at hc
  split at hc <;> try simp at hc
  rename_i ds hne hds
  obtain ⟨i, hi, hz⟩ : ∃ i, C.P.info? T = some i ∧ i.zero = some z := by
   cases h : C.P.info? T with
   | none => rw [h] at hz; cases hz
   | some i => rw [h] at hz; exact ⟨i, rfl, hz⟩
  have hzv : (zeroValue T).run C.P w = .ok z w := by simp only [zeroValue, typeInfo, Sem.run_bind, run_program, Result.andThen_ok, hi, Sem.run_pure, hz]
  simp only [execOp, ha.eval hx, Instr.typeAssert, Sem.run_bind, run_underlying hds, Result.andThen_ok]
  cases ds <;> first | (exact absurd rfl (hne _)) | simp [Sem.run_pure, hn, hzv]
end
theorem wpS_walk {C : Ctx} {c : Code} {Q : Exit → Act → List Frame → World → Prop} {a : Act} {cs : List Frame} {w : World} {E : Env} {L : List HProp} (ha : Agr C E a) (hi : Inv C.w0 L w) (h : Wp C c (qr C fun e a w => Q e a cs w) E L) : c.wpS C.P Q a cs w := wpS_of_wp (wr_of h a w ha hi)
theorem agr_40 {P : Program} {w0 : World} {X : List PanicEntry → List HProp → Prop} (x y : Value) : Agr ⟨P, w0, 19, [], X⟩ [(6, y), (0, x)] { tmps := #[x] ++ (Array.replicate 18 undef).setIfInBounds 5 y, defers := [] } := by
 refine ⟨rfl, by simp, fun d v hd => ?_⟩
 rw [Env.get_cons] at hd
 split at hd
 ·rename_i h; subst h; cases hd; simp
 ·rw [Env.get_cons] at hd
  split at hd
  ·rename_i h; subst h; cases hd; simp
  ·simp [Env.get] at hd
end Go.Sl
namespace Go.Sl
theorem Ctr.fgt {P : Program} {f : FuncId} {args : List Value} {Pre : List HProp} {v0 : Value} {R : List HProp → Prop} (h : Ctr P f args Pre (Ret fun v G => v = v0 ∧ R G)) : Ctr P f args Pre (Ret fun _ G => R G) := h.mono fun e G h => by
 rcases h with ⟨v, rfl, _, h⟩; exact ⟨v, rfl, h⟩
end Go.Sl
namespace Go.Proofs.YtmbljkghkcgejaaGreat
open Go.Sl 
theorem TTZiU : okT Tryz.prog ⟨[], []⟩ = true := by kernel_rfl
theorem V.if20 : ifaceB Tryz.prog 20 = true := by kernel_rfl
theorem V.zv91 : (Tryz.prog.info? 91).bind (·.zero) = some (.agg #[]) := by kernel_rfl
theorem V.zv92 : (Tryz.prog.info? 92).bind (·.zero) = some (.agg #[]) := by kernel_rfl
theorem rems_self : ∀ (A M : List HProp), Rems (A ++ M) A M
  | [], M => .nil
  | a :: A, M => .cons .head (rems_self A M)
theorem catch_pan {w0 : World} {L : List HProp} (b : Nat) (x e : Int) (t : TypeId) (pv : Value) (hp : PE e (pan1 t pv)) (older : List PanicEntry) (w : World) (hi : Inv w0 (Cel b 24 [.int .i64 x] :: L) w) :
    CallsD Tryz.prog 51 #[.pointer (some ⟨b, 0, none⟩)] (.panicking ({ v := .iface t pv, recovered := false } :: older)) w fun e' u' w' =>
      e' = .returned (.tuple #[]) ∧ u' = .panicking ({ v := .iface t pv, recovered := true } :: older) ∧ Inv w0 (Cel b 24 [.int .i64 e] :: L) w' := by
  refine callsD_of_wpS Tryz.func51 rfl fun c₀ cs hu => ?_
  apply wpS_seq
  apply wpS_region
  simp [wpOpsS, go_sem, recoverD, hu, Tryz.ntmps51, Exit.thenS]
  refine wpS_walk (C := ⟨Tryz.prog, w0, 19, [], fun _ _ => True⟩) (E := [(6, .iface t pv), (0, .pointer (some ⟨b, 0, none⟩))]) (agr_40 _ _) hi ?_
  rcases hp with ⟨h, rfl⟩ | ⟨h, rfl⟩ | ⟨h, _⟩
  · simp only [pan1, List.cons.injEq, PanicEntry.mk.injEq, Value.iface.injEq, and_true] at h
    obtain ⟨rfl, rfl⟩ := h
    refine w_block ?_
    refine w_seq (w_region ?_)
    refine oV (v_eqnilI V.if20 rfl rfl) ?_
    refine o_nil ?_
    refine thn_n ?_
    refine w_condF rfl ?_
    refine w_seq (w_region ?_)
    refine oV (v_tassY V.c91 rfl) ?_
    iterate 2 refine oV (v_extract rfl rfl) ?_
    refine o_nil ?_
    refine thn_n ?_
    refine w_condT rfl ?_
    refine w_seq (w_region ?_)
    refine o_alloc V.z91 rfl ?_
    intro bz
    refine o_eff (v_storeAgg V.a91 rfl rfl (us := []) rfl rfl .head (by exact Nat.le_of_ble_eq_true rfl) rfl) ?_
    refine o_nil ?_
    refine thn_n ?_
    refine w_region ?_
    refine o_eff (v_store V.s24 rfl rfl rfl (.tail .head) (by exact Nat.le_of_ble_eq_true rfl) rfl) ?_
    refine o_nil ?_
    refine blk_n ?_
    intro a w ha hi
    exact ⟨ha.defers, _, rfl, .tuple #[], by simp [results, Tryz.results51], rfl, rfl, hi.tail⟩
  · simp only [pan1, List.cons.injEq, PanicEntry.mk.injEq, Value.iface.injEq, and_true] at h
    obtain ⟨rfl, rfl⟩ := h
    refine w_block ?_
    refine w_seq (w_region ?_)
    refine oV (v_eqnilI V.if20 rfl rfl) ?_
    refine o_nil ?_
    refine thn_n ?_
    refine w_condF rfl ?_
    refine w_seq (w_region ?_)
    refine oV (v_tassN V.c91 V.zv91 (by decide) rfl) ?_
    iterate 2 refine oV (v_extract rfl rfl) ?_
    refine o_nil ?_
    refine thn_n ?_
    refine w_condF rfl ?_
    refine w_seq (w_region ?_)
    refine oV (v_tassY V.c92 rfl) ?_
    iterate 2 refine oV (v_extract rfl rfl) ?_
    refine o_nil ?_
    refine thn_n ?_
    refine w_condT rfl ?_
    refine w_seq (w_region ?_)
    refine o_alloc V.z92 rfl ?_
    intro bz
    refine o_eff (v_storeAgg V.a92 rfl rfl (us := []) rfl rfl .head (by exact Nat.le_of_ble_eq_true rfl) rfl) ?_
    refine o_nil ?_
    refine thn_n ?_
    refine w_region ?_
    refine o_eff (v_store V.s24 rfl rfl rfl (.tail .head) (by exact Nat.le_of_ble_eq_true rfl) rfl) ?_
    refine o_nil ?_
    refine blk_n ?_
    intro a w ha hi
    exact ⟨ha.defers, _, rfl, .tuple #[], by simp [results, Tryz.results51], rfl, rfl, hi.tail⟩
  · simp only [pan1, List.cons.injEq, PanicEntry.mk.injEq, Value.iface.injEq, and_true] at h
    obtain ⟨rfl, rfl⟩ := h
    refine w_block ?_
    refine w_seq (w_region ?_)
    refine oV (v_eqnilI V.if20 rfl rfl) ?_
    refine o_nil ?_
    refine thn_n ?_
    refine w_condF rfl ?_
    refine w_seq (w_region ?_)
    refine oV (v_tassN V.c91 V.zv91 (by decide) rfl) ?_
    iterate 2 refine oV (v_extract rfl rfl) ?_
    refine o_nil ?_
    refine thn_n ?_
    refine w_condF rfl ?_
    refine w_seq (w_region ?_)
    refine oV (v_tassN V.c92 V.zv92 (by decide) rfl) ?_
    iterate 2 refine oV (v_extract rfl rfl) ?_
    refine o_nil ?_
    refine thn_n ?_
    refine w_condF rfl ?_
    refine w_seq (w_region ?_)
    refine oV (v_tassY V.c24 rfl) ?_
    iterate 2 refine oV (v_extract rfl rfl) ?_
    refine o_nil ?_
    refine thn_n ?_
    refine w_condT rfl ?_
    refine w_seq (w_region ?_)
    refine oV (v_assign rfl) ?_
    refine o_nil ?_
    refine thn_n ?_
    refine w_region ?_
    refine oV (v_move rfl) ?_
    refine o_eff (v_store V.s24 rfl rfl rfl .head (by exact Nat.le_of_ble_eq_true rfl) rfl) ?_
    refine o_nil ?_
    refine blk_n ?_
    intro a w ha hi
    exact ⟨ha.defers, _, rfl, .tuple #[], by simp [results, Tryz.results51], rfl, rfl, hi⟩
theorem catch_idle {w0 : World} {L : List HProp} (b : Nat) (w : World) (hi : Inv w0 L w) :
    CallsD Tryz.prog 51 #[.pointer (some ⟨b, 0, none⟩)] .returning w fun e u' w' => e = .returned (.tuple #[]) ∧ u' = .returning ∧ Inv w0 L w' := by
  refine callsD_of_wpS Tryz.func51 rfl fun c₀ cs hu => ?_
  apply wpS_seq
  apply wpS_region
  simp [wpOpsS, go_sem, recoverD, hu, Tryz.ntmps51, Exit.thenS]
  refine wpS_walk (C := ⟨Tryz.prog, w0, 19, [], fun _ _ => True⟩) (E := [(6, .nilIface), (0, .pointer (some ⟨b, 0, none⟩))]) (agr_40 _ _) hi ?_
  refine w_block ?_
  refine w_seq (w_region ?_)
  refine oV (v_eqnilJ V.if20 rfl) ?_
  refine o_nil ?_
  refine thn_n ?_
  refine w_condT rfl ?_
  refine w_region ?_
  refine oV (v_assign rfl) ?_
  refine o_nil ?_
  refine blk_n ?_
  intro a w ha hi
  cases c₀
  exact ⟨ha.defers, _, by simp_all, .tuple #[], by simp [results, Tryz.results51], rfl, rfl, hi⟩
theorem tried_end {C : Ctx} {a : Act} {E : Env} {L : List HProp} {w : World} {b : Nat} {x : Int} (hP : C.P = Tryz.prog) (ha : Agr C E a) (ht : E.get 2 = some (.pointer (some ⟨b, 0, none⟩))) (hi : Inv C.w0 (Cel b 24 [.int .i64 x] :: L) w) :
    (results Tryz.f37 a.tmps).run Tryz.prog w = .ok (.int .i64 x) w := by
  have h1 := ha.get _ _ ht
  have h2 := hi.cel_cell 0
  simp only [List.getElem?_cons_zero] at h2
  simp [results, Tryz.results37, h1, go_sem, h2]
theorem tried_ok {f : FuncId} {cs : List Value} {Pre : List HProp} {R : List HProp → Prop} (hS : Ctr Tryz.prog f cs Pre (Ret fun _ G => R G)) (hb : bodyB Tryz.prog f = true) :
    Ctr Tryz.prog 37 [.func (.func f) #[] cs.toArray] Pre (Ret fun v G => v = .int .i64 0 ∧ R G) := by
  refine spec_ofD [(0, _)] Tryz.func37 rfl Tryz.ntmps37 rfl rfl ?_
  intro w0 F
  refine wr_seq (w_region ?_)
  refine o_alloc V.z24 rfl ?_
  intro b2
  refine o_nil ?_
  refine thn_n ?_
  refine wr_defer (caps := [.tmp 2]) rfl rfl ?_
  refine wr_seq ?_
  refine w_region ?_
  refine oV (v_move rfl) ?_
  refine o_perm (L' := Pre ++ (Cel b2 24 [.int .i64 0] :: F)) List.perm_middle.symm ?_
  refine o_callF (fs := []) (vs := []) (cs := cs) hS hb rfl rfl (rems_self _ _) rfl ?_
  intro v G hR
  refine o_nil ?_
  refine thn_n ?_
  refine wr_seq ?_
  refine w_region ?_
  refine o_perm (L' := Cel b2 24 [.int .i64 0] :: (G ++ F)) List.perm_middle ?_
  refine o_eff (v_store V.s24 rfl rfl rfl .head (by exact Nat.le_of_ble_eq_true rfl) rfl) ?_
  refine o_nil ?_
  refine thn_n ?_
  refine wr_of (w_ret ?_)
  intro a w ha hi
  show Leaves _ _ _ _ a.defers _ _
  rw [ha.defers]
  refine leaves_cons (f := 51) (args := #[.pointer (some ⟨b2, 0, none⟩)]) (by simp) ?_ ?_
  · simp [invoke, run_callFunc V.b51]
  refine (catch_idle b2 w hi).mono ?_
  rintro e u' w' ⟨rfl, rfl, hi⟩
  exact ⟨.int .i64 0, tried_end rfl ha rfl hi, G, hi.tail, _, rfl, rfl, hR⟩
theorem tried_no {f : FuncId} {cs : List Value} {Pre : List HProp} {e : Int} {R : List HProp → Prop} (hS : Ctr Tryz.prog f cs Pre (Pan fun ch G => PE e ch ∧ R G)) (hb : bodyB Tryz.prog f = true) :
    Ctr Tryz.prog 37 [.func (.func f) #[] cs.toArray] Pre (Ret fun v G => v = .int .i64 e ∧ R G) := by
  refine spec_ofD [(0, _)] Tryz.func37 rfl Tryz.ntmps37 rfl rfl ?_
  intro w0 F
  refine wr_seq (w_region ?_)
  refine o_alloc V.z24 rfl ?_
  intro b2
  refine o_nil ?_
  refine thn_n ?_
  refine wr_defer (caps := [.tmp 2]) rfl rfl ?_
  refine wr_seq ?_
  refine w_region ?_
  refine oV (v_move rfl) ?_
  refine o_perm (L' := Pre ++ (Cel b2 24 [.int .i64 0] :: F)) List.perm_middle.symm ?_
  refine o_callFE (fs := []) (vs := []) (cs := cs) hS hb rfl rfl (rems_self _ _) ?_
  rintro ch G ⟨hp, hR⟩
  refine thn_p ?_
  intro a w ha hi
  show Leaves _ _ _ _ a.defers _ _
  rw [ha.defers]
  have hi2 : Inv w0 (Cel b2 24 [.int .i64 0] :: (G ++ F)) w := hi.perm List.perm_middle
  refine leaves_cons (f := 51) (args := #[.pointer (some ⟨b2, 0, none⟩)]) (by simp) ?_ ?_
  · simp [invoke, run_callFunc V.b51]
  obtain ⟨t, u, rfl⟩ : ∃ t u, ch = pan1 t u := by
    rcases hp with ⟨h, _⟩ | ⟨h, _⟩ | ⟨h, _⟩ <;> exact ⟨_, _, h⟩
  refine (catch_pan b2 0 e t u hp [] w hi2).mono ?_
  rintro e' u' w' ⟨rfl, rfl, hi3⟩
  exact ⟨.int .i64 e, tried_end rfl ha rfl hi3, G, hi3.tail, _, rfl, rfl, hR⟩
end Go.Proofs.YtmbljkghkcgejaaGreat
namespace Go.Proofs.YtmbljkghkcgejaaGreat
open Go.Sl 
theorem TTZiV : okT Tryz.prog ⟨[], []⟩ = true := by kernel_rfl
attribute [local irreducible] HuffP.newE HuffP.tk HuffP.ord HuffP.cntL HuffP.words HuffP.mostL InfP.frs InfP.toldC InfP.toldN InfP.toldA InfP.hL InfP.hD InfP.hC InfP.lnGo InfP.told InfP.fixL InfP.codeE InfP.rep InfP.lenE InfP.awayE InfP.sym InfP.alg BitP.numL InfP.coded InfP.begin_ InfP.one InfP.put_
theorem mm_open {b bl : Nat} {sz mo : Int} {B : List Int} {s : InfP.St} {w0 : World} {h : Hp} (hh : MM b bl sz mo B s w0 h) : ∃ i : Pv, True ∧ sats w0 [MS b bl sz mo i.li i.di s, LW bl B s.at_ [] 0, CD i.li i.di s] h := hh
def MD (b bl : Nat) (sz mo e : Int) : HProp := fun w0 h => ∃ i : Vx, True ∧ sats w0 [Cel b 75 [.pointer (some ⟨bl, 0, none⟩), .int .i64 sz, .int .i64 mo, .slice none 0 0, .bool true, .int .i64 e, i.v6, i.v7, i.v8, i.v9, i.v10, i.v11, i.v12]] h
theorem md_close {b bl : Nat} {sz mo e : Int} {v6 v7 v8 v9 v10 v11 v12 : Value} {w0 : World} {h : Hp}
  (hh : sats w0 [Cel b 75 [.pointer (some ⟨bl, 0, none⟩), .int .i64 sz, .int .i64 mo, .slice none 0 0, .bool true, .int .i64 e, v6, v7, v8, v9, v10, v11, v12]] h) : MD b bl sz mo e w0 h := ⟨⟨.nilFunc, .nilFunc, .nilFunc, v6, v7, v8, v9, v10, v11, v12⟩, trivial, hh⟩
def MJ (b bl : Nat) (sz mo : Int) (B : List Int) : InfP.Jt → HProp
 | .ok s => MM b bl sz mo B s
 | .error e => MD b bl sz mo e
set_option maxHeartbeats 2000000 in
theorem c_step1 (bm bw bn b bl : Nat) (sz mo : Int) (w : Nat) (n : Int) (s0 : InfP.St) (o : Except Int InfP.St) (B : List Int) (hl : B.length < 500000000) (hB : BitP.Byt B) (hm : mo < 1000000000) (hw : w < 1000000000) (hok0 : InfP.Ok B mo s0) (hlp0 : InfP.Lp B mo w n s0 o) : Ctr Tryz.prog 38 [.pointer (some ⟨bm, 0, none⟩), .pointer (some ⟨bw, 0, none⟩), .pointer (some ⟨bn, 0, none⟩)] [Cel bm 50 [.pointer (some ⟨b, 0, none⟩)], Cel bw 3 [.int .i64 (w : Int)], Cel bn 3 [.int .i64 n], MM b bl sz mo B s0] (PostE o (fun s2 v G => v = .tuple #[] ∧ G = [Cel bm 50 [.pointer (some ⟨b, 0, none⟩)], Cel bw 3 [.int .i64 (w : Int)], Cel bn 3 [.int .i64 n], MM b bl sz mo B s2]) [Cel bm 50 [.pointer (some ⟨b, 0, none⟩)], Cel bw 3 [.int .i64 (w : Int)], Cel bn 3 [.int .i64 n], MX b bl sz mo]) := by
 refine spec_of [(0, _), (1, _), (2, _)] Tryz.func38 rfl Tryz.ntmps38 rfl rfl ?_
 intro w0 F
 refine rT TTZiV 1 rfl ?_
 refine w_loop1 (fun (s : InfP.St) => [(0, .pointer (some ⟨bm, 0, none⟩)), (1, .pointer (some ⟨bw, 0, none⟩)), (2, .pointer (some ⟨bn, 0, none⟩))]) (fun (s : InfP.St) => MM b bl sz mo B s :: Cel bm 50 [.pointer (some ⟨b, 0, none⟩)] :: Cel bw 3 [.int .i64 (w : Int)] :: Cel bn 3 [.int .i64 n] :: F) (fun (s : InfP.St) => InfP.Ok B mo s ∧ InfP.Lp B mo w n s o) (fun (s : InfP.St) => InfP.mu B s) (i1 (s0) ?_ (lc3 ln) (sub (.cons rr3 (rz3 .nil)) dd0)) ?_
 ·exact ⟨hok0, hlp0⟩
 intro s
 rintro ⟨hok, hlp⟩
 rcases (Bool.eq_false_or_eq_true s.ended) with he | he
 ·refine rL TTZiV 2 rfl ?_
  have hro := hok.room
  refine w_opnR rr0 (fun h hh => mm_open hh) ?_
  rintro ⟨li, di⟩ _
  dsimp only
  simp only [List.cons_append, List.nil_append]
  refine w_opn (fun h hh => ms_open hh) ?_
  rintro ⟨po, co⟩ _
  dsimp only
  simp only [List.cons_append, List.nil_append]
  refine wN [pz 0 [] [0], pz 1 [0] [], pz 3 [1] [], pz 7 [2] [], pz 15 [3] [], pz 31 [4] [], pz 63 [5] [0], pz 127 [6, 5] [], pz 255 [7, 5] [], pz 511 [8, 5] [], pz 1023 [9, 5] [], pz 63 [5] [1], pz 4095 [10, 11, 5] [], pz 63 [5] [2], pz 16383 [12, 13, 5] [], pz 32767 [5, 14] []] [⟨fun y => Cel b 75 [.pointer (some ⟨bl, 0, none⟩), .int .i64 sz, .int .i64 mo, .slice po s.out.length co, .bool s.ended, .int .i64 0, .int .i64 s.kind, .int .i64 (s.left : Int), .bool s.last, li, di, .int .i64 (s.copies : Int), .int .i64 (s.far : Int)], none, none, [3]⟩, ⟨fun y => Row U5 po s.out.length co s.out, none, none, []⟩, ⟨fun y => LW bl B s.at_ [] 0, none, none, []⟩, ⟨fun y => CD li di s, none, none, []⟩, ⟨fun y => Cel bm 50 [.pointer (some ⟨b, 0, none⟩)], none, none, [0]⟩, ⟨fun y => Cel bw 3 [.int .i64 (w : Int)], none, none, []⟩, ⟨fun y => Cel bn 3 [.int .i64 n], none, none, []⟩] F V.mixed ?_
  refine nR (fun y FF hA => v_load V.s50 rfl mm0 rfl) ?_
  refine nN ?_
  refine nG V.f75_4 ?_
  refine nR (fun y FF hA => v_to (v := .bool true) (v_load V.s4 rfl mm0 rfl) (by rw [he])) ?_
  refine nV (fun y hA L => v_to (v := .bool false) (v_not rfl) rfl) ?_
  refine nM ?_
  refine net_pure _ (fun y => rfl) rfl rfl rfl (fun y hA L => st_pass rfl rfl ⟨rfl, rfl⟩) (by intros; rfl) (by intro y y2 h; rfl) ?_
  refine net_pure _ (fun y => rfl) rfl rfl rfl (fun y hA L => st_pass rfl rfl ⟨rfl, rfl⟩) (by intros; rfl) (by intro y y2 h; rfl) ?_
  refine net_pure _ (fun y => rfl) rfl rfl rfl (fun y hA L => st_pass rfl rfl ⟨rfl, rfl⟩) (by intros; rfl) (by intro y y2 h; rfl) ?_
  refine net_pure _ (fun y => rfl) rfl rfl rfl (fun y hA L => st_pass rfl rfl ⟨rfl, rfl⟩) (by intros; rfl) (by intro y y2 h; rfl) ?_
  refine net_pure _ (fun y => rfl) rfl rfl rfl (fun y hA L => st_pass rfl rfl ⟨rfl, rfl⟩) (by intros; rfl) (by intro y y2 h; rfl) ?_
  refine net_pure _ (fun y => rfl) rfl rfl rfl (fun y hA L => st_pass rfl rfl ⟨rfl, rfl⟩) (by intros; rfl) (by intro y y2 h; rfl) ?_
  refine net_pure _ (fun y => rfl) rfl rfl rfl (fun y hA L => st_pass rfl rfl ⟨rfl, rfl⟩) (by intros; rfl) (by intro y y2 h; rfl) ?_
  refine net_pure _ (fun y => rfl) rfl rfl rfl (fun y hA L => st_pass rfl rfl ⟨rfl, rfl⟩) (by intros; rfl) (by intro y y2 h; rfl) ?_
  refine net_pure _ (fun y => rfl) rfl rfl rfl (fun y hA L => st_pass rfl rfl ⟨rfl, rfl⟩) (by intros; rfl) (by intro y y2 h; rfl) ?_
  refine nV (fun y hA L => v_pickF rfl rfl) ?_
  refine net_nil ?_
  intro y hA
  clear hA
  refine thn_n ?_
  refine w_keep _ (.cons (d := 0) rfl (.cons (d := 1) rfl (.cons (d := 2) rfl (.cons (d := 18) rfl (.nil _))))) ?_
  refine w_sub (M := Cel b 75 [.pointer (some ⟨bl, 0, none⟩), .int .i64 sz, .int .i64 mo, .slice po s.out.length co, .bool s.ended, .int .i64 0, .int .i64 s.kind, .int .i64 (s.left : Int), .bool s.last, li, di, .int .i64 (s.copies : Int), .int .i64 (s.far : Int)] :: Row U5 po s.out.length co s.out :: LW bl B s.at_ [] 0 :: CD li di s :: Cel bm 50 [.pointer (some ⟨b, 0, none⟩)] :: Cel bw 3 [.int .i64 (w : Int)] :: Cel bn 3 [.int .i64 n] :: F) (fun _ _ h => h) ?_
  refine rC TTZiV 5 rfl ?_
  refine (fun hs => pe_end (x := s) (InfP.lp_at hlp (by exact .inl he)) res0 ⟨rfl, rfl⟩ (Sl.Sub.trans ((fold' (rz2 .nil) .refl (fun w0 h hh => ms_close (s := s) rfl hh)).trans (fold' (rz3 .nil) .refl (fun w0 h hh => mm_closeD (s := s) hh))) hs)) (sub (.cons rr1 (.cons rr1 (.cons rr1 (rz1 .nil)))) dd0)
 ·refine rL TTZiV 2 rfl ?_
  have hro := hok.room
  refine w_opnR rr0 (fun h hh => mm_open hh) ?_
  rintro ⟨li, di⟩ _
  dsimp only
  simp only [List.cons_append, List.nil_append]
  refine w_opn (fun h hh => ms_open hh) ?_
  rintro ⟨po, co⟩ _
  dsimp only
  simp only [List.cons_append, List.nil_append]
  refine wN [pz 0 [] [0], pz 1 [0] [], pz 3 [1] [], pz 7 [2] [], pz 15 [3] [], pz 31 [4] [], pz 63 [5] [0], pz 127 [6, 5] [], pz 255 [7, 5] [], pz 511 [8, 5] [], pz 1023 [9, 5] [], pz 63 [5] [1], pz 4095 [10, 11, 5] [], pz 63 [5] [2], pz 16383 [12, 13, 5] [], pz 32767 [5, 14] []] [⟨fun y => Cel b 75 [.pointer (some ⟨bl, 0, none⟩), .int .i64 sz, .int .i64 mo, .slice po s.out.length co, .bool s.ended, .int .i64 0, .int .i64 s.kind, .int .i64 (s.left : Int), .bool s.last, li, di, .int .i64 (s.copies : Int), .int .i64 (s.far : Int)], none, none, [3, 9]⟩, ⟨fun y => Row U5 po s.out.length co s.out, none, none, []⟩, ⟨fun y => LW bl B s.at_ [] 0, none, none, []⟩, ⟨fun y => CD li di s, none, none, []⟩, ⟨fun y => Cel bm 50 [.pointer (some ⟨b, 0, none⟩)], none, none, [0, 6]⟩, ⟨fun y => Cel bw 3 [.int .i64 (w : Int)], none, none, [11]⟩, ⟨fun y => Cel bn 3 [.int .i64 n], none, none, [13]⟩] F V.mixed ?_
  refine nR (fun y FF hA => v_load V.s50 rfl mm0 rfl) ?_
  refine nN ?_
  refine nG V.f75_4 ?_
  refine nR (fun y FF hA => v_to (v := .bool false) (v_load V.s4 rfl mm0 rfl) (by rw [he])) ?_
  refine nV (fun y hA L => v_to (v := .bool true) (v_not rfl) rfl) ?_
  refine nM ?_
  refine net_read _ _ (fun y => rfl) rfl (fun y => rfl) rfl (fun y FF hA => st_want rfl (st_v (v_load V.s50 rfl mm0 rfl) ⟨rfl, rfl⟩)) (by intros; rfl) (by intro y y2 h; rfl) ?_
  refine net_pure _ (fun y => rfl) rfl rfl rfl (fun y hA L => st_want rfl (st_v (v_nil rfl) ⟨rfl, rfl⟩)) (by intros; rfl) (by intro y y2 h; rfl) ?_
  refine net_pure _ (fun y => rfl) rfl rfl rfl (fun y hA L => st_want rfl (st_v (v_fieldAddr V.f75_3 rfl) ⟨rfl, rfl⟩)) (by intros; rfl) (by intro y y2 h; rfl) ?_
  refine net_read _ _ (fun y => rfl) rfl (fun y => rfl) rfl (fun y FF hA => st_want rfl (st_v (v_load V.s22 rfl mm0 rfl) ⟨rfl, rfl⟩)) (by intros; rfl) (by intro y y2 h; rfl) ?_
  refine net_pure _ (fun y => rfl) rfl rfl rfl (fun y hA L => st_want rfl (st_v (v_len (ty' := 0) Tryz.underlying22 rfl) ⟨rfl, rfl⟩)) (by intros; rfl) (by intro y y2 h; rfl) ?_
  refine net_read _ _ (fun y => rfl) rfl (fun y => rfl) rfl (fun y FF hA => st_want rfl (st_v (v_load V.s3 rfl mm0 rfl) ⟨rfl, rfl⟩)) (by intros; rfl) (by intro y y2 h; rfl) ?_
  refine net_pure _ (fun y => rfl) rfl rfl rfl (fun y hA L => st_want rfl (st_v (v_sub rfl rfl wI) ⟨rfl, rfl⟩)) (by intros; rfl) (by intro y y2 h; rfl) ?_
  refine net_read _ _ (fun y => rfl) rfl (fun y => rfl) rfl (fun y FF hA => st_want rfl (st_v (v_load V.s3 rfl mm0 rfl) ⟨rfl, rfl⟩)) (by intros; rfl) (by intro y y2 h; rfl) ?_
  refine net_pure _ (fun y => rfl) rfl rfl rfl (fun y hA L => st_want rfl (st_v (v_lss rfl rfl) ⟨rfl, rfl⟩)) (by intros; rfl) (by intro y y2 h; rfl) ?_
  refine nV (fun y hA L => v_pickT rfl rfl) ?_
  refine net_nil ?_
  intro y hA
  clear hA
  refine thn_n ?_
  refine w_keep _ (.cons (d := 0) rfl (.cons (d := 1) rfl (.cons (d := 2) rfl (.cons (d := 18) rfl (.nil _))))) ?_
  refine w_sub (M := Cel b 75 [.pointer (some ⟨bl, 0, none⟩), .int .i64 sz, .int .i64 mo, .slice po s.out.length co, .bool s.ended, .int .i64 0, .int .i64 s.kind, .int .i64 (s.left : Int), .bool s.last, li, di, .int .i64 (s.copies : Int), .int .i64 (s.far : Int)] :: Row U5 po s.out.length co s.out :: LW bl B s.at_ [] 0 :: CD li di s :: Cel bm 50 [.pointer (some ⟨b, 0, none⟩)] :: Cel bw 3 [.int .i64 (w : Int)] :: Cel bn 3 [.int .i64 n] :: F) (fun _ _ h => h) ?_
  refine w_condD rfl (fun h18 => ?_) (fun h18 => ?_)
  ·refine rC TTZiV 3 rfl ?_
   rcases (InfP.ex_or (InfP.one B mo s)) with ⟨e, hp⟩ | ⟨s2, hp⟩
   ·refine w_sub ((fold' (rz2 .nil) .refl (fun w0 h hh => ms_close (s := s) rfl hh)).trans (fold' (rz3 .nil) .refl (fun w0 h hh => mm_closeD (s := s) hh))) ?_
    refine w_region ?_
    refine oV (v_load V.s50 rfl mm1 rfl) ?_
    refine o_callE ((c_one b bl sz mo s B hl hB hm hok).err hp) V.b39 rfl (rz1 .nil) ?_
    rintro _ _ ⟨hpe, rfl⟩
    refine (blk_p (thn_p (blk_p ?_)))
    exact pe_pan (InfP.lp_er hlp he (by omega) hp) hpe (sub (.cons rr1 (.cons rr1 (.cons rr1 (rz1 .nil)))) dd0)
   ·refine w_sub ((fold' (rz2 .nil) .refl (fun w0 h hh => ms_close (s := s) rfl hh)).trans (fold' (rz3 .nil) .refl (fun w0 h hh => mm_closeD (s := s) hh))) ?_
    have hg := InfP.one_good hB hok hp
    refine w_region ?_
    refine oV (v_load V.s50 rfl mm1 rfl) ?_
    refine o_call ((c_one b bl sz mo s B hl hB hm hok).ok hp) V.b39  rfl (rz1 .nil) rfl ?_
    rintro _ _ ⟨rfl, rfl⟩
    refine rO TTZiV 2 rfl ?_
    refine j1 (s2) ?_ (lc3 ln) (sub (rz4 .nil) dd0)
    exact ⟨⟨hg.ok, InfP.lp_go hlp he (by omega) hp⟩, hg.less⟩
  ·refine rC TTZiV 4 rfl ?_
   refine (fun hs => pe_end (x := s) (InfP.lp_at hlp (by exact .inr (by omega))) res0 ⟨rfl, rfl⟩ (Sl.Sub.trans ((fold' (rz2 .nil) .refl (fun w0 h hh => ms_close (s := s) rfl hh)).trans (fold' (rz3 .nil) .refl (fun w0 h hh => mm_closeD (s := s) hh))) hs)) (sub (.cons rr1 (.cons rr1 (.cons rr1 (rz1 .nil)))) dd0)
end Go.Proofs.YtmbljkghkcgejaaGreat

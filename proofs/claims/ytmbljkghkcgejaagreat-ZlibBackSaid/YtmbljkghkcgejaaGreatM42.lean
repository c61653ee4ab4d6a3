/- Walks of functions that the law reaches, and what they lean on; no conditions. -/
import Derived.Test.YtmbljkghkcgejaaGreatM30
import Derived.Test.YtmbljkghkcgejaaGreatSl22
import Derived.KernelRfl
import Derived.Test.YtmbljkghkcgejaaGreatM41
import Derived.Test.YtmbljkghkcgejaaGreatM32
set_option linter.unusedVariables false
set_option linter.unusedSimpArgs false
set_option maxRecDepth 100000
namespace Go.Proofs.YtmbljkghkcgejaaGreat
open Go.Sl 
theorem cN : dJ Tryz.prog ⟨[], [(75, 0, 0), (75, 6, 6), (75, 7, 7), (75, 11, 11), (75, 12, 12)]⟩ = true := by kernel_rfl
attribute [local irreducible] ab.aO ab.tk ab.ord ab.bx ab.words ab.cF aa.fP aa.bG aa.bO aa.cY aa.hL aa.hD aa.hC aa.eZ aa.told aa.bF aa.iN aa.rep aa.eo aa.dr aa.sym aa.cC af.az aa.eG aa.cT aa.eE
theorem oL (b bl : Nat) (sz mo : Int) (po : Option Addr) (co : Nat) (li di : Value) (s : aa.St) (yb : Int) (hy : 0 ≤ yb ∧ yb < 256) (hm : mo < 1000000000) : aD Tryz.prog 52 [.pointer (some ⟨b, 0, none⟩), .int .u8 yb] [av b 75 [.pointer (some ⟨bl, 0, none⟩), .int .i64 sz, .int .i64 mo, .slice po s.out.length co, .bool s.ended, .int .i64 0, .int .i64 s.kind, .int .i64 (s.left : Int), .bool s.last, li, di, .int .i64 (s.aq : Int), .int .i64 (s.aL : Int)], Row U5 po s.out.length co s.out] (ib (aa.eE mo s yb) (fun s2 v G => v = .tuple #[] ∧ G = [MS b bl sz mo li di s2]) [MX b bl sz mo]) :=
 aD.fold (I1 b bl sz mo li di s yb hy hm) (fun w0 h hh => cU rfl hh)
set_option maxHeartbeats 4000000 in
theorem yD (b bl : Nat) (sz mo : Int) (l d : Nat) (s : aa.St) (B : List Int) (hl : B.length < 500000000) (hB : af.aY B) (hm : mo < 1000000000) (hok : aa.Ok B mo s) (hk : 0 < s.kind) : aD Tryz.prog 54 [.pointer (some ⟨b, 0, none⟩)] [MS b bl sz mo (.pointer (some ⟨l, 0, none⟩)) (.pointer (some ⟨d, 0, none⟩)) s, LW bl B s.at_ [] 0, HC l s.lits, HC d s.cH] (ib (aa.eG B mo s) (fun s2 v G => v = .tuple #[] ∧ G = [MM b bl sz mo B s2]) [MX b bl sz mo]) := by
 refine ax [(0, _)] Tryz.func54 rfl Tryz.ntmps54 rfl rfl ?_
 intro w0 F
 refine eK (fun h hh => hh) ?_
 rintro ⟨po, co⟩ _
 dsimp only
 obtain ⟨hE1, hE2, hz1, hz2⟩ := hok.zX hk
 have ha := hok.at_
 have hll := aa.pg hE1
 have hro := hok.room
 rcases (aa.oJ (B := B) (ls := s.lits) (a := s.at_) hE1 hz1) with ⟨e, hs⟩ | ⟨sy, a1, hs, hy0, hy1, ha0, ha1⟩
 ·refine rT cN 1 rfl ?_
  refine wN [pz 0 [] [0], pz 1 [0] [], pz 3 [1] [], pz 7 [2] [], pz 0 [] [0], pz 16 [4] [], pz 48 [5] [], pz 112 [6] [], pz 255 [3, 7] [], pz 511 [8] []] [⟨fun y => av b 75 [.pointer (some ⟨bl, 0, none⟩), .int .i64 sz, .int .i64 mo, .slice po s.out.length co, .bool s.ended, .int .i64 0, .int .i64 s.kind, .int .i64 (s.left : Int), .bool s.last, (.pointer (some ⟨l, 0, none⟩)), (.pointer (some ⟨d, 0, none⟩)), .int .i64 (s.aq : Int), .int .i64 (s.aL : Int)], none, none, [3, 7, 8]⟩, ⟨fun y => Row U5 po s.out.length co s.out, none, none, []⟩, ⟨fun y => LW bl B s.at_ [] 0, none, none, [8]⟩, ⟨fun y => HC l s.lits, none, none, [8]⟩, ⟨fun y => HC d s.cH, none, none, []⟩] F V.mixed ?_
  refine nM ?_
  refine nN ?_
  refine nG V.AQ ?_
  refine nR (fun y FF hA => ag V.uU rfl ak rfl) ?_
  refine nM ?_
  refine nN ?_
  refine nG V.fe ?_
  refine nR (fun y FF hA => ag V.dw rfl ak rfl) ?_
  refine bj (undef) _ _ (fun y => rfl) rfl (fun y => rfl) (fun y FF hA => fN ((o6 l s.lits bl B s.at_ [] 0 hE1 hl hB ha).err hs) V.w3 rfl (.cons aS (.cons ar .nil)) (by rintro _ _ ⟨hp, rfl⟩; exact lu (aa.rI hs) hp (aG (au .nil) (by exact vj (M := FF) (F := F)) (fun w0 h hh => cD hh)))) ?_
  refine bj (.bool true) _ _ (fun y => rfl) rfl (fun y => rfl) (fun y FF hA => (dj.fact (hA 8 (by decide)) (q := fun _ => False) rfl).elim) ?_
  refine aM ?_
  intro y hA
  exact (dj.fact (hA 8 (by exact Nat.le_of_ble_eq_true rfl)) (q := fun _ => False) rfl).elim
 ·refine rT cN 1 rfl ?_
  refine wN [pz 0 [] [0], pz 1 [0] [], pz 3 [1] [], pz 7 [2] [], pz 0 [] [0], pz 16 [4] [], pz 48 [5] [], pz 112 [6] [], pz 255 [3, 7] [], pz 511 [8] []] [⟨fun y => av b 75 [.pointer (some ⟨bl, 0, none⟩), .int .i64 sz, .int .i64 mo, .slice po s.out.length co, .bool s.ended, .int .i64 0, .int .i64 s.kind, .int .i64 (s.left : Int), .bool s.last, (.pointer (some ⟨l, 0, none⟩)), (.pointer (some ⟨d, 0, none⟩)), .int .i64 (s.aq : Int), .int .i64 (s.aL : Int)], none, none, [3, 7]⟩, ⟨fun y => Row U5 po s.out.length co s.out, none, none, []⟩, ⟨fun y => LW bl B s.at_ [] 0, none, some 8, []⟩, ⟨fun y => HC l s.lits, none, some 8, []⟩, ⟨fun y => HC d s.cH, none, none, []⟩, ⟨fun y => HC l s.lits, some 8, none, []⟩, ⟨fun y => LW bl B a1 [] 0, some 8, none, []⟩] F V.mixed ?_
  refine nM ?_
  refine nN ?_
  refine nG V.AQ ?_
  refine nR (fun y FF hA => ag V.uU rfl ak rfl) ?_
  refine nM ?_
  refine nN ?_
  refine nG V.fe ?_
  refine nR (fun y FF hA => ag V.dw rfl ak rfl) ?_
  refine nE (fun y FF hA => dx (Post := [HC l s.lits, LW bl B a1 [] 0]) ((o6 l s.lits bl B s.at_ [] 0 hE1 hl hB ha).ok hs) V.w3 rfl (.cons ar (au .nil)) (fun v G h => by rcases h with ⟨rfl, rfl⟩; exact ⟨rfl, .refl _⟩)) ?_
  refine nA ?_
  refine aM ?_
  intro y hA
  clear hA
  refine bp ?_
  refine bW _ (.cons (d := 0) rfl (.cons (d := 2) rfl (.nil _))) ?_
  refine bR (M := av b 75 [.pointer (some ⟨bl, 0, none⟩), .int .i64 sz, .int .i64 mo, .slice po s.out.length co, .bool s.ended, .int .i64 0, .int .i64 s.kind, .int .i64 (s.left : Int), .bool s.last, (.pointer (some ⟨l, 0, none⟩)), (.pointer (some ⟨d, 0, none⟩)), .int .i64 (s.aq : Int), .int .i64 (s.aL : Int)] :: Row U5 po s.out.length co s.out :: HC d s.cH :: HC l s.lits :: LW bl B a1 [] 0 :: F) (fun _ _ h => h) ?_
  refine rC cN 8 rfl ?_
  refine aj rfl (fun h36 => ?_) (fun h36 => ?_)
  ·rcases (aa.eT (aa.eE mo { s with at_ := a1 } sy)) with ⟨e, hp⟩ | ⟨s2, hp⟩
   ·refine rC cN 3 rfl ?_
    refine oV (bq V.u3 Tryz.underlying5 rfl (lE (by omega) (by omega))) ?_
    refine c0 ((oL b bl sz mo po co (.pointer (some ⟨l, 0, none⟩)) (.pointer (some ⟨d, 0, none⟩)) { s with at_ := a1 } sy (by omega) hm).err hp) V.yg rfl (aE .nil) ?_
    rintro _ _ ⟨hpe, rfl⟩
    refine (fo ?_)
    exact dS ((aa.kp hs (by omega)).trans hp) hpe (sub (au .nil) jj)
   ·refine rC cN 3 rfl ?_
    refine oV (bq V.u3 Tryz.underlying5 rfl (lE (by omega) (by omega))) ?_
    refine ai ((oL b bl sz mo po co (.pointer (some ⟨l, 0, none⟩)) (.pointer (some ⟨d, 0, none⟩)) { s with at_ := a1 } sy (by omega) hm).ok hp) V.yg  rfl (aE .nil) rfl ?_
    rintro _ _ ⟨rfl, rfl⟩
    refine rO cN 2 rfl ?_
    obtain ⟨_, rfl⟩ := aa.my hp
    exact hG ((aa.kp hs (by omega)).trans hp) dN ⟨rfl, rfl⟩ (aG (au (.cons aS (.cons ar (.cons dg .nil)))) ao (fun w0 h hh => mz (s := { s with at_ := a1, out := s.out ++ [sy] }) hh))
  ·refine rC cN 7 rfl ?_
   refine aj rfl (fun h43 => ?_) (fun h43 => ?_)
   ·refine rC cN 2 rfl ?_
    refine ai (zD b bl sz mo po s.out.length co (.pointer (some ⟨l, 0, none⟩)) (.pointer (some ⟨d, 0, none⟩)) s) V.LP  rfl (au .nil) rfl ?_
    rintro _ _ ⟨rfl, rfl⟩
    refine rO cN 2 rfl ?_
    exact hG (x := { s with at_ := a1, kind := -1, ended := s.last }) (aa.lS hs (by omega)) dN ⟨rfl, rfl⟩ ((aG (aE .nil) .refl (fun w0 h hh => cU (s := { s with at_ := a1, kind := -1, ended := s.last }) rfl hh)).trans (aG (au (.cons aS (.cons ar (.cons dg .nil)))) ao (fun w0 h hh => mz (s := { s with at_ := a1, kind := -1, ended := s.last }) hh)))
   ·rcases (aa.Db (B := B) (s := sy - 257) (a := a1) (by omega) ha1) with ⟨e, hn⟩ | ⟨n, a2, hn, hn0, hn1, hn2, hn3⟩
    ·refine cy cN 6 rfl (by omega) ?_
     refine oV (dD (r := sy - 257) rfl rfl (by rw [show sy - 256 - 1 = sy - 257 from by omega]; exact gQ (by omega) (by omega))) ?_
     refine c0 ((wk b bl sz mo po s.out.length co (.pointer (some ⟨l, 0, none⟩)) (.pointer (some ⟨d, 0, none⟩)) s B a1 (sy - 257) (by omega) hl hB ha1).err hn) V.LR rfl (au (.cons dC .nil)) ?_
     rintro _ _ ⟨hpe, rfl⟩
     refine (dz (fo ?_))
     exact dS (aa.pF hs (by omega) hn) hpe (sub (au .nil) jj)
    ·refine cy cN 6 rfl (by omega) ?_
     refine oV (dD (r := sy - 257) rfl rfl (by rw [show sy - 256 - 1 = sy - 257 from by omega]; exact gQ (by omega) (by omega))) ?_
     refine ai ((wk b bl sz mo po s.out.length co (.pointer (some ⟨l, 0, none⟩)) (.pointer (some ⟨d, 0, none⟩)) s B a1 (sy - 257) (by omega) hl hB ha1).ok hn) V.LR  rfl (au (.cons dC .nil)) rfl ?_
     rintro _ _ ⟨rfl, rfl⟩
     refine rO cN 2 rfl ?_
     refine bM (bV V.s3 rfl rfl rfl (by exact dO) (by exact Nat.le_of_ble_eq_true rfl) rfl) ?_
     refine rO cN 2 rfl ?_
     rcases (aa.zJ (B := B) (ds := s.cH) (a := a2) hE2 hz2) with ⟨e, hf⟩ | ⟨f, a3, hf, hf0, hf1, hf2, hf3⟩
     ·refine rC cN 4 rfl ?_
      refine c0 ((Bt b bl sz mo po s.out.length co (.pointer (some ⟨l, 0, none⟩)) d { s with aq := n } B s.cH a2 hE2 hz2 hl hB hn3).err hf) V.LS rfl (au (.cons aS (.cons dg .nil))) ?_
      rintro _ _ ⟨hpe, rfl⟩
      refine (dz (fo ?_))
      exact dS (aa.nT hs (by omega) hn hf) hpe (sub (au .nil) fg)
     ·refine rC cN 4 rfl ?_
      refine ai ((Bt b bl sz mo po s.out.length co (.pointer (some ⟨l, 0, none⟩)) d { s with aq := n } B s.cH a2 hE2 hz2 hl hB hn3).ok hf) V.LS  rfl (au (.cons aS (.cons dg .nil))) rfl ?_
      rintro _ _ ⟨rfl, rfl⟩
      refine rO cN 2 rfl ?_
      refine bM (bV V.s3 rfl rfl rfl (by exact dO) (by exact Nat.le_of_ble_eq_true rfl) rfl) ?_
      refine rO cN 2 rfl ?_
      rcases (Classical.em (f ≤ s.out.length)) with hfo | hfo
      ·refine wN [pz 0 [] [0], pz 1 [0] [], pz 3 [1] [], pz 7 [2] [], pz 0 [] [0], pz 16 [4] [], pz 48 [5] [], pz 112 [6] [], pz 240 [7] [], pz 511 [3, 8] [], pz 1023 [9] []] [⟨fun y => av b 75 [.pointer (some ⟨bl, 0, none⟩), .int .i64 sz, .int .i64 mo, .slice po s.out.length co, .bool s.ended, .int .i64 0, .int .i64 s.kind, .int .i64 (s.left : Int), .bool s.last, (.pointer (some ⟨l, 0, none⟩)), (.pointer (some ⟨d, 0, none⟩)), .int .i64 (n : Int), .int .i64 (f : Int)], none, none, [3, 7]⟩, ⟨fun y => HC d s.cH, none, none, []⟩, ⟨fun y => LW bl B a3 [] 0, none, none, []⟩, ⟨fun y => Row U5 po s.out.length co s.out, none, none, []⟩, ⟨fun y => HC l s.lits, none, none, []⟩] F V.mixed ?_
       refine nM ?_
       refine nN ?_
       refine nG V.tz ?_
       refine nR (fun y FF hA => ag V.s3 rfl ak rfl) ?_
       refine nM ?_
       refine nN ?_
       refine nG V.mc ?_
       refine nR (fun y FF hA => ag V.eL rfl ak rfl) ?_
       refine nV (fun y hA L => eF (ty' := 0) Tryz.underlying22 rfl) ?_
       refine nV (fun y hA L => ck (iM rfl rfl) (by omega)) ?_
       refine nE (fun y FF hA => dx (Post := []) (kE 4) V.kt rfl .nil (fun v G h => by rcases h with ⟨rfl, rfl⟩; exact ⟨rfl, .refl _⟩)) ?_
       refine aM ?_
       intro y hA
       clear hA
       show jD _ _ _ _ (av b 75 [.pointer (some ⟨bl, 0, none⟩), .int .i64 sz, .int .i64 mo, .slice po s.out.length co, .bool s.ended, .int .i64 0, .int .i64 s.kind, .int .i64 (s.left : Int), .bool s.last, (.pointer (some ⟨l, 0, none⟩)), (.pointer (some ⟨d, 0, none⟩)), .int .i64 (n : Int), .int .i64 (f : Int)] :: HC d s.cH :: LW bl B a3 [] 0 :: Row U5 po s.out.length co s.out :: HC l s.lits :: F)
       refine gR ?_
       exact hG (x := { s with at_ := a3, aq := n, aL := f }) (aa.pQ hs (by omega) hn hf (by omega)) dN ⟨rfl, rfl⟩ ((aG (au (.cons aS .nil)) .refl (fun w0 h hh => cU (s := { s with at_ := a3, aq := n, aL := f }) rfl hh)).trans (aG (au (.cons ar (.cons ar (.cons dg .nil)))) ao (fun w0 h hh => mz (s := { s with at_ := a3, aq := n, aL := f }) hh)))
      ·refine wN [pz 0 [] [0], pz 1 [0] [], pz 3 [1] [], pz 7 [2] [], pz 0 [] [0], pz 16 [4] [], pz 48 [5] [], pz 112 [6] [], pz 240 [7] [], pz 511 [3, 8] [], pz 1023 [9] []] [⟨fun y => av b 75 [.pointer (some ⟨bl, 0, none⟩), .int .i64 sz, .int .i64 mo, .slice po s.out.length co, .bool s.ended, .int .i64 0, .int .i64 s.kind, .int .i64 (s.left : Int), .bool s.last, (.pointer (some ⟨l, 0, none⟩)), (.pointer (some ⟨d, 0, none⟩)), .int .i64 (n : Int), .int .i64 (f : Int)], none, none, [3, 7, 10]⟩, ⟨fun y => HC d s.cH, none, none, []⟩, ⟨fun y => LW bl B a3 [] 0, none, none, []⟩, ⟨fun y => Row U5 po s.out.length co s.out, none, none, []⟩, ⟨fun y => HC l s.lits, none, none, []⟩] F V.mixed ?_
       refine nM ?_
       refine nN ?_
       refine nG V.tz ?_
       refine nR (fun y FF hA => ag V.s3 rfl ak rfl) ?_
       refine nM ?_
       refine nN ?_
       refine nG V.mc ?_
       refine nR (fun y FF hA => ag V.eL rfl ak rfl) ?_
       refine nV (fun y hA L => eF (ty' := 0) Tryz.underlying22 rfl) ?_
       refine nV (fun y hA L => bA (iM rfl rfl) (by omega)) ?_
       refine bj (undef) _ _ (fun y => rfl) rfl (fun y => rfl) (fun y FF hA => fN (ik 4) V.kt rfl .nil (by rintro _ _ ⟨rfl, rfl⟩; exact lu (aa.rF hs (by omega) hn hf (by omega)) (PE.no (by decide)) (aG (au .nil) (by exact vj (M := FF) (F := F)) (fun w0 h hh => cD hh)))) ?_
       refine aM ?_
       intro y hA
       exact (dj.fact (hA 10 (by exact Nat.le_of_ble_eq_true rfl)) (q := fun _ => False) rfl).elim
set_option maxHeartbeats 4000000 in
theorem GG (b bl : Nat) (sz mo : Int) (s : aa.St) (B : List Int) (hl : B.length < 500000000) (hB : af.aY B) (hm : mo < 1000000000) (hok : aa.Ok B mo s) : aD Tryz.prog 39 [.pointer (some ⟨b, 0, none⟩)] [MM b bl sz mo B s] (ib (aa.one B mo s) (fun s2 v G => v = .tuple #[] ∧ G = [MM b bl sz mo B s2]) [MX b bl sz mo]) := by
 refine ax [(0, _)] Tryz.func39 rfl Tryz.ntmps39 rfl rfl ?_
 intro w0 F
 refine eK (fun h hh => hh) ?_
 rintro ⟨li, di⟩ _
 dsimp only
 refine eK (fun h hh => hh) ?_
 rintro ⟨po, co⟩ _
 dsimp only
 simp only [List.cons_append, List.nil_append]
 have ha := hok.at_
 have hro := hok.room
 have hcp := hok.aq
 have hlf := hok.left
 have hnb := af.aU B s.at_ 8
 refine rT cN 6 rfl ?_
 refine oV (ag V.s3 rfl ak rfl) ?_
 refine rO cN 4 rfl ?_
 refine aj rfl (fun h17 => ?_) (fun h17 => ?_)
 ·rcases (aa.eT (aa.eE mo s (U5.g s.out ((s.out.length : Int) - (s.aL : Int))))) with ⟨e, hp⟩ | ⟨s2, hp⟩
  ·refine rC cN 1 rfl ?_
   have hcs : 0 < s.aq := by omega
   have hfr := hok.aL hcs
   have hge : U5.g s.out ((s.out.length : Int) - (s.aL : Int)) = s.out.getD (s.out.length - s.aL) 0 := gE _ (by omega)
   refine wN [pz 0 [] [0], pz 0 [] [0], pz 2 [1] [], pz 6 [2] [], pz 14 [3] [], pz 0 [] [0], pz 32 [5] [], pz 96 [6] [], pz 224 [7] [], pz 480 [8] [], pz 0 [] [0], pz 1024 [10] [], pz 3072 [11] [], pz 7168 [12] [], pz 16352 [9, 13] [], pz 32766 [4, 14] [], pz 65534 [15] [], pz 131071 [0, 16] []] [⟨fun y => av b 75 [.pointer (some ⟨bl, 0, none⟩), .int .i64 sz, .int .i64 mo, .slice po s.out.length co, .bool s.ended, .int .i64 0, .int .i64 s.kind, .int .i64 (s.left : Int), .bool s.last, li, di, .int .i64 (s.aq : Int), .int .i64 (s.aL : Int)], none, none, [4, 8, 13, 17]⟩, ⟨fun y => Row U5 po s.out.length co s.out, none, none, [15, 16, 17]⟩, ⟨fun y => LW bl B s.at_ [] 0, none, none, []⟩, ⟨fun y => CD li di s, none, none, []⟩] F V.mixed ?_
   iterate 2 refine nM ?_
   refine nN ?_
   refine nG V.mc ?_
   refine nR (fun y FF hA => ag V.eL rfl ak rfl) ?_
   refine nM ?_
   refine nN ?_
   refine nG V.mc ?_
   refine nR (fun y FF hA => ag V.eL rfl ak rfl) ?_
   refine nV (fun y hA L => eF (ty' := 0) Tryz.underlying22 rfl) ?_
   refine nM ?_
   refine nN ?_
   refine nG V.tz ?_
   refine nR (fun y FF hA => ag V.s3 rfl ak rfl) ?_
   refine nV (fun y hA L => dD rfl rfl wI) ?_
   refine nR (fun y FF hA => xI V.bH (own ak)) ?_
   refine nR (fun y FF hA => xL V.s5 (own ak)) ?_
   refine bj (undef) _ _ (fun y => rfl) rfl (fun y => rfl) (fun y FF hA => fN ((oL b bl sz mo po co li di s (U5.g s.out ((s.out.length : Int) - (s.aL : Int))) (by rw [hge]; exact hok.lH.get _) hm).err hp) V.yg rfl (aE .nil) (by rintro _ _ ⟨hpe, rfl⟩; exact lu (aa.BF hcs (by rw [← hge]; exact hp)) hpe (sub (au .nil) (by exact vj (M := FF) (F := F))))) ?_
   refine aM ?_
   intro y hA
   exact (dj.fact (hA 17 (by exact Nat.le_of_ble_eq_true rfl)) (q := fun _ => False) rfl).elim
  ·refine rC cN 1 rfl ?_
   have hcs : 0 < s.aq := by omega
   have hfr := hok.aL hcs
   have hge : U5.g s.out ((s.out.length : Int) - (s.aL : Int)) = s.out.getD (s.out.length - s.aL) 0 := gE _ (by omega)
   refine wN [pz 0 [] [0], pz 0 [] [0], pz 2 [1] [], pz 6 [2] [], pz 14 [3] [], pz 0 [] [0], pz 32 [5] [], pz 96 [6] [], pz 224 [7] [], pz 480 [8] [], pz 0 [] [0], pz 1024 [10] [], pz 3072 [11] [], pz 7168 [12] [], pz 16352 [9, 13] [], pz 32766 [4, 14] [], pz 65534 [15] [], pz 131071 [0, 16] []] [⟨fun y => av b 75 [.pointer (some ⟨bl, 0, none⟩), .int .i64 sz, .int .i64 mo, .slice po s.out.length co, .bool s.ended, .int .i64 0, .int .i64 s.kind, .int .i64 (s.left : Int), .bool s.last, li, di, .int .i64 (s.aq : Int), .int .i64 (s.aL : Int)], none, some 17, [4, 8, 13]⟩, ⟨fun y => Row U5 po s.out.length co s.out, none, some 17, [15, 16]⟩, ⟨fun y => LW bl B s.at_ [] 0, none, none, []⟩, ⟨fun y => CD li di s, none, none, []⟩, ⟨fun y => MS b bl sz mo li di s2, some 17, none, []⟩] F V.mixed ?_
   iterate 2 refine nM ?_
   refine nN ?_
   refine nG V.mc ?_
   refine nR (fun y FF hA => ag V.eL rfl ak rfl) ?_
   refine nM ?_
   refine nN ?_
   refine nG V.mc ?_
   refine nR (fun y FF hA => ag V.eL rfl ak rfl) ?_
   refine nV (fun y hA L => eF (ty' := 0) Tryz.underlying22 rfl) ?_
   refine nM ?_
   refine nN ?_
   refine nG V.tz ?_
   refine nR (fun y FF hA => ag V.s3 rfl ak rfl) ?_
   refine nV (fun y hA L => dD rfl rfl wI) ?_
   refine nR (fun y FF hA => xI V.bH (own ak)) ?_
   refine nR (fun y FF hA => xL V.s5 (own ak)) ?_
   refine nE (fun y FF hA => dx (Post := [MS b bl sz mo li di s2]) ((oL b bl sz mo po co li di s (U5.g s.out ((s.out.length : Int) - (s.aL : Int))) (by rw [hge]; exact hok.lH.get _) hm).ok hp) V.yg rfl (aE .nil) (fun v G h => by rcases h with ⟨rfl, rfl⟩; exact ⟨rfl, .refl _⟩)) ?_
   refine aM ?_
   intro y hA
   clear hA
   refine bp ?_
   refine bW _ (.cons (d := 0) rfl (.nil _)) ?_
   refine bR (M := LW bl B s.at_ [] 0 :: CD li di s :: MS b bl sz mo li di s2 :: F) (fun _ _ h => h) ?_
   obtain ⟨hroom, rfl⟩ := aa.my hp
   refine gg aS (fun h hh => im hh) ?_
   rintro ⟨po2, co2⟩ _
   dsimp only
   simp only [List.cons_append, List.nil_append]
   refine rC cN 4 rfl ?_
   refine oV (ag V.s3 rfl ak rfl) ?_
   refine bN cN 3 rfl (by omega) ?_
   refine bM (bV V.s3 rfl rfl rfl (by exact dO) (by exact Nat.le_of_ble_eq_true rfl) rfl) ?_
   refine rO cN 2 rfl ?_
   rw [show (s.aq : Int) - 1 = ((s.aq - 1 : Nat) : Int) from by omega]
   exact hG (x := { s with aq := s.aq - 1, out := s.out ++ [(U5.g s.out ((s.out.length : Int) - (s.aL : Int)))] }) (by rw [hge]; exact aa.we hcs hroom) dN ⟨rfl, rfl⟩ ((aG (aE .nil) .refl (fun w0 h hh => cU (s := { s with aq := s.aq - 1, out := s.out ++ [(U5.g s.out ((s.out.length : Int) - (s.aL : Int)))] }) (by simp) hh)).trans (aG (dU .nil) ao (fun w0 h hh => fm (s := { s with aq := s.aq - 1, out := s.out ++ [(U5.g s.out ((s.out.length : Int) - (s.aL : Int)))] }) hh)))
 ·refine rC cN 5 rfl ?_
  refine oV (ag V.s3 rfl ak rfl) ?_
  refine rO cN 4 rfl ?_
  refine aj rfl (fun h48 => ?_) (fun h48 => ?_)
  ·rcases (aa.eT (aa.cT B s)) with ⟨e, hp⟩ | ⟨s2, hp⟩
   ·have hcs : ¬ 0 < s.aq := by omega
    have hk1 : s.kind = -1 := by omega
    refine bR (aG (aE .nil) .refl (fun w0 h hh => cU (s := s) rfl hh)) ?_
    refine rC cN 2 rfl ?_
    refine c0 ((zj b bl sz mo li di s B hl hB ha).err hp) V.oB rfl (aE .nil) ?_
    rintro _ _ ⟨hpe, rfl⟩
    refine (fo ?_)
    exact dS ((aa.jd hcs hk1).trans hp) hpe (sub (au .nil) cw)
   ·have hcs : ¬ 0 < s.aq := by omega
    have hk1 : s.kind = -1 := by omega
    refine bR (aG (aE .nil) .refl (fun w0 h hh => cU (s := s) rfl hh)) ?_
    refine rC cN 2 rfl ?_
    refine ai ((zj b bl sz mo li di s B hl hB ha).ok hp) V.oB  rfl (aE .nil) rfl ?_
    rintro _ _ ⟨rfl, rfl⟩
    refine rO cN 2 rfl ?_
    exact hG ((aa.jd hcs hk1).trans hp) dN ⟨rfl, rfl⟩ (sub (au .nil) cw)
  ·refine rC cN 5 rfl ?_
   refine oV (ag V.s3 rfl ak rfl) ?_
   refine rO cN 4 rfl ?_
   refine aj rfl (fun h56 => ?_) (fun h56 => ?_)
   ·rcases (aa.eT (aa.eG B mo s)) with ⟨e, hp⟩ | ⟨s2, hp⟩
    ·have hcs : ¬ 0 < s.aq := by omega
     have hk1 : ¬ s.kind = -1 := by omega
     have hk0 : s.kind ≠ 0 := by omega
     have hkp : 0 < s.kind := by have := hok.kind; omega
     refine gg dC (fun h hh => yB hkp hh) ?_
     rintro ⟨l, d⟩ ⟨h1, h2⟩
     dsimp only at h1 h2
     subst h1
     subst h2
     simp only [List.cons_append, List.nil_append]
     refine bR (aG (.cons aS (.cons aS .nil)) .refl (fun w0 h hh => cU (s := s) rfl hh)) ?_
     refine rC cN 2 rfl ?_
     refine c0 ((yD b bl sz mo l d s B hl hB hm hok hkp).err hp) V.IP rfl (au (.cons aS (.cons dg (.cons dg .nil)))) ?_
     rintro _ _ ⟨hpe, rfl⟩
     refine (fo ?_)
     exact dS ((aa.iw hcs hk1 hk0).trans hp) hpe (sub (au .nil) ao)
    ·have hcs : ¬ 0 < s.aq := by omega
     have hk1 : ¬ s.kind = -1 := by omega
     have hk0 : s.kind ≠ 0 := by omega
     have hkp : 0 < s.kind := by have := hok.kind; omega
     refine gg dC (fun h hh => yB hkp hh) ?_
     rintro ⟨l, d⟩ ⟨h1, h2⟩
     dsimp only at h1 h2
     subst h1
     subst h2
     simp only [List.cons_append, List.nil_append]
     refine bR (aG (.cons aS (.cons aS .nil)) .refl (fun w0 h hh => cU (s := s) rfl hh)) ?_
     refine rC cN 2 rfl ?_
     refine ai ((yD b bl sz mo l d s B hl hB hm hok hkp).ok hp) V.IP  rfl (au (.cons aS (.cons dg (.cons dg .nil)))) rfl ?_
     rintro _ _ ⟨rfl, rfl⟩
     refine rO cN 2 rfl ?_
     exact hG ((aa.iw hcs hk1 hk0).trans hp) dN ⟨rfl, rfl⟩ (sub (au .nil) ao)
   ·refine rC cN 5 rfl ?_
    refine oV (ag V.s3 rfl ak rfl) ?_
    refine rO cN 4 rfl ?_
    refine aj rfl (fun h64 => ?_) (fun h64 => ?_)
    ·have hcs : ¬ 0 < s.aq := by omega
     have hk1 : ¬ s.kind = -1 := by omega
     have hk0 : s.kind = 0 := by omega
     have hl0 : s.left = 0 := by omega
     refine rC cN 2 rfl ?_
     refine ai (zD b bl sz mo po s.out.length co li di s) V.LP  rfl (au .nil) rfl ?_
     rintro _ _ ⟨rfl, rfl⟩
     refine rO cN 2 rfl ?_
     exact hG (x := { s with kind := -1, ended := s.last }) (aa.oy hcs hk1 hk0 hl0) dN ⟨rfl, rfl⟩ ((aG (aE .nil) .refl (fun w0 h hh => cU (s := { s with kind := -1, ended := s.last }) rfl hh)).trans (aG (aE .nil) cw (fun w0 h hh => nH (s := { s with kind := -1, ended := s.last }) (by show (-1 : Int) ≤ 0; decide) hh)))
    ·rcases (aa.Jf B s.at_ mo { s with at_ := s.at_ + 8 } (af.az B s.at_ 8)) with hx | ⟨hx, e, hp⟩ | ⟨hx, s2, hp⟩
     ·refine rC cN 1 rfl ?_
      have hcs : ¬ 0 < s.aq := by omega
      have hk1 : ¬ s.kind = -1 := by omega
      have hk0 : s.kind = 0 := by omega
      have hl0 : ¬ s.left = 0 := by omega
      refine rC cN 5 rfl ?_
      refine oV (ag V.dw rfl ak rfl) ?_
      refine c0 (gk bl B s.at_ [] 0 8 hl hB (by omega) (by omega) (by omega)) V.gp rfl (.cons aS .nil) ?_
      rintro _ _ ⟨rfl, rfl⟩
      refine (dz (fo ?_))
      exact dS (aa.qB hcs hk1 hk0 hl0 hx) PE.end_ (aG (.cons ar .nil) jj (fun w0 h hh => cD hh))
     ·refine rC cN 1 rfl ?_
      have hcs : ¬ 0 < s.aq := by omega
      have hk1 : ¬ s.kind = -1 := by omega
      have hk0 : s.kind = 0 := by omega
      have hl0 : ¬ s.left = 0 := by omega
      refine rC cN 5 rfl ?_
      refine oV (ag V.dw rfl ak rfl) ?_
      refine ai (fC bl B s.at_ [] 0 8 hl hB (by omega) (by omega)) V.gp  rfl (.cons aS .nil) rfl ?_
      rintro _ _ ⟨rfl, rfl⟩
      refine oV (bq V.u3 Tryz.underlying5 rfl (lE (by omega) (by omega))) ?_
      refine c0 ((oL b bl sz mo po co li di s (af.az B s.at_ 8) (by omega) hm).err (aa.I9 hp)) V.yg rfl (.cons ar (.cons ar .nil)) ?_
      rintro _ _ ⟨hpe, rfl⟩
      refine (dz (fo ?_))
      exact dS (aa.one_le hcs hk1 hk0 hl0 hx hp) hpe (sub (au .nil) fg)
     ·refine rC cN 1 rfl ?_
      have hcs : ¬ 0 < s.aq := by omega
      have hk1 : ¬ s.kind = -1 := by omega
      have hk0 : s.kind = 0 := by omega
      have hl0 : ¬ s.left = 0 := by omega
      refine rC cN 5 rfl ?_
      refine oV (ag V.dw rfl ak rfl) ?_
      refine ai (fC bl B s.at_ [] 0 8 hl hB (by omega) (by omega)) V.gp  rfl (.cons aS .nil) rfl ?_
      rintro _ _ ⟨rfl, rfl⟩
      refine oV (bq V.u3 Tryz.underlying5 rfl (lE (by omega) (by omega))) ?_
      refine ai ((oL b bl sz mo po co li di { s with at_ := s.at_ + 8 } (af.az B s.at_ 8) (by omega) hm).ok hp) V.yg  rfl (.cons ar (.cons ar .nil)) rfl ?_
      rintro _ _ ⟨rfl, rfl⟩
      refine rO cN 2 rfl ?_
      obtain ⟨hroom, rfl⟩ := aa.my hp
      refine gg dg (fun h hh => im hh) ?_
      rintro ⟨po2, co2⟩ _
      dsimp only
      simp only [List.cons_append, List.nil_append]
      refine rC cN 4 rfl ?_
      refine oV (ag V.s3 rfl ak rfl) ?_
      refine bN cN 3 rfl (by omega) ?_
      refine bM (bV V.s3 rfl rfl rfl (by exact dO) (by exact Nat.le_of_ble_eq_true rfl) rfl) ?_
      refine rO cN 2 rfl ?_
      rw [show (s.left : Int) - 1 = ((s.left - 1 : Nat) : Int) from by omega]
      exact hG (x := { s with at_ := s.at_ + 8, left := s.left - 1, out := s.out ++ [(af.az B s.at_ 8)] }) (aa.w4 hcs hk1 hk0 hl0 hx hroom) dN ⟨rfl, rfl⟩ ((aG (aE .nil) .refl (fun w0 h hh => cU (s := { s with at_ := s.at_ + 8, left := s.left - 1, out := s.out ++ [(af.az B s.at_ 8)] }) (by simp) hh)).trans (aG (aE .nil) cw (fun w0 h hh => nH (s := { s with at_ := s.at_ + 8, left := s.left - 1, out := s.out ++ [(af.az B s.at_ 8)] }) (by show s.kind ≤ 0; omega) hh)))
end Go.Proofs.YtmbljkghkcgejaaGreat
namespace Go.Sl
section
variable {C : Ctx} {E : Env} {L : List ae} {ty : TypeId}
def qg (P : Program) (t : TypeId) : Bool := match P.underlying t with | some (.interface _) => true | _ => false
theorem vL {t T : TypeId} {is : Array (String × TypeId)} {u : Value} (ht : C.P.underlying t = some (.interface is)) (d : Nat) (w : World) : (Op.equalIn (d + 1) t (.iface T u) .nilIface).run C.P w = .ok false w := by
 simp [Op.equalIn, run_underlying ht]
theorem xK {t : TypeId} {is : Array (String × TypeId)} (ht : C.P.underlying t = some (.interface is)) (d : Nat) (w : World) : (Op.equalIn (d + 1) t .nilIface .nilIface).run C.P w = .ok true w := by
 simp [Op.equalIn, run_underlying ht]
theorem sF {x y : Operand} {t t' T : TypeId} {u : Value} (ht : qg C.P t = true) (hx : ay E x = some (.iface T u)) (hy : ay E y = some .nilIface) : bX C (.binOp .eql t x y t') ty E L (.bool false) L :=
 dR fun d pos aft g a w ha => by
  unfold qg at ht
  split at ht <;> try simp at ht
  rename_i is hds
  rw [jo d pos aft g (ha.eval hx) (ha.eval hy) (by simp [eqGuard])]
  have h := vL hds (T := T) (u := u) 9999 w
  simp only [binOp, Op.equal, Op.maxDepth, Sem.run_bind, h, Result.andThen_ok, Sem.run_pure]
theorem DV {x : Operand} {t t' : TypeId} (ht : qg C.P t = true) (hx : ay E x = some .nilIface) : bX C (.binOp .eql t x (.const .nilIface) t') ty E L (.bool true) L :=
 dR fun d pos aft g a w ha => by
  unfold qg at ht
  split at ht <;> try simp at ht
  rename_i is hds
  rw [jo d pos aft g (ha.eval hx) (ha.eval (x := .const .nilIface) rfl) (by simp [eqGuard])]
  have h := xK hds 9999 w
  simp only [binOp, Op.equal, Op.maxDepth, Sem.run_bind, h, Result.andThen_ok, Sem.run_pure]
theorem ua {x : Operand} {xT T : TypeId} {u : Value} (hc : mK C.P T = true) (hx : ay E x = some (.iface T u)) : bX C (.typeAssert x xT T true) ty E L (.tuple #[u, .bool true]) L :=
 dR fun d pos aft g a w ha => by
  unfold mK at hc
  split at hc <;> try simp at hc
  rename_i ds hne hds
  simp only [execOp, ha.eval hx, Instr.typeAssert, Sem.run_bind, run_underlying hds, Result.andThen_ok]
  cases ds <;> first | (exact absurd rfl (hne _)) | simp [Sem.run_pure]
theorem uG {x : Operand} {xT T t : TypeId} {u z : Value} (hc : mK C.P T = true) (hz : (C.P.info? T).bind (·.zero) = some z) (hn : t ≠ T) (hx : ay E x = some (.iface t u)) : bX C (.typeAssert x xT T true) ty E L (.tuple #[z, .bool false]) L :=
 dR fun d pos aft g a w ha => by
  unfold mK at hc
  split at hc <;> try simp at hc
  rename_i ds hne hds
  obtain ⟨i, hi, hz⟩ : ∃ i, C.P.info? T = some i ∧ i.zero = some z := by
   cases h : C.P.info? T with
   | none => rw [h] at hz; cases hz
   | some i => rw [h] at hz; exact ⟨i, rfl, hz⟩
  have hzv : (zeroValue T).run C.P w = .ok z w := by simp only [zeroValue, typeInfo, Sem.run_bind, run_program, Result.andThen_ok, hi, Sem.run_pure, hz]
  simp only [execOp, ha.eval hx, Instr.typeAssert, Sem.run_bind, run_underlying hds, Result.andThen_ok]
  cases ds <;> first | (exact absurd rfl (hne _)) | simp [Sem.run_pure, hn, hzv]
end
theorem yi {C : Ctx} {c : Code} {Q : Exit → Act → List Frame → World → Prop} {a : Act} {cs : List Frame} {w : World} {E : Env} {L : List ae} (ha : gf C E a) (hi : Inv C.w0 L w) (h : Wp C c (qr C fun e a w => Q e a cs w) E L) : c.wpS C.P Q a cs w := wpS_of_wp (F8 h a w ha hi)
theorem Df {P : Program} {w0 : World} {X : List PanicEntry → List ae → Prop} (x y : Value) : gf ⟨P, w0, 19, [], X⟩ [(6, y), (0, x)] { tmps := #[x] ++ (Array.replicate 18 undef).setIfInBounds 5 y, defers := [] } := by
 refine ⟨rfl, by simp, fun d v hd => ?_⟩
 rw [Env.iF] at hd
 split at hd
 ·rename_i h; subst h; cases hd; simp
 ·rw [Env.iF] at hd
  split at hd
  ·rename_i h; subst h; cases hd; simp
  ·simp [Env.get] at hd
end Go.Sl
namespace Go.Sl
theorem aD.NJ {P : Program} {f : FuncId} {args : List Value} {Pre : List ae} {v0 : Value} {R : List ae → Prop} (h : aD P f args Pre (aK fun v G => v = v0 ∧ R G)) : aD P f args Pre (aK fun _ G => R G) := h.mono fun e G h => by
 rcases h with ⟨v, rfl, _, h⟩; exact ⟨v, rfl, h⟩
end Go.Sl
namespace Go.Proofs.YtmbljkghkcgejaaGreat
open Go.Sl 
theorem Ob : dJ Tryz.prog ⟨[], []⟩ = true := by kernel_rfl
theorem V.Ap : qg Tryz.prog 20 = true := by kernel_rfl
theorem V.JT : (Tryz.prog.info? 91).bind (·.zero) = some (.agg #[]) := by kernel_rfl
theorem V.M1 : (Tryz.prog.info? 92).bind (·.zero) = some (.agg #[]) := by kernel_rfl
theorem qc : ∀ (A M : List ae), fy (A ++ M) A M
  | [], M => .nil
  | a :: A, M => .cons .head (qc A M)
theorem Cl {w0 : World} {L : List ae} (b : Nat) (x e : Int) (t : TypeId) (pv : Value) (hp : PE e (jY t pv)) (older : List PanicEntry) (w : World) (hi : Inv w0 (av b 24 [.int .i64 x] :: L) w) :
    CallsD Tryz.prog 51 #[.pointer (some ⟨b, 0, none⟩)] (.panicking ({ v := .iface t pv, recovered := false } :: older)) w fun e' u' w' =>
      e' = .returned (.tuple #[]) ∧ u' = .panicking ({ v := .iface t pv, recovered := true } :: older) ∧ Inv w0 (av b 24 [.int .i64 e] :: L) w' := by
  refine callsD_of_wpS Tryz.func51 rfl fun c₀ cs hu => ?_
  apply wpS_seq
  apply wpS_region
  simp [wpOpsS, go_sem, recoverD, hu, Tryz.ntmps51, Exit.thenS]
  refine yi (C := ⟨Tryz.prog, w0, 19, [], fun _ _ => True⟩) (E := [(6, .iface t pv), (0, .pointer (some ⟨b, 0, none⟩))]) (Df _ _) hi ?_
  rcases hp with ⟨h, rfl⟩ | ⟨h, rfl⟩ | ⟨h, _⟩
  · simp only [jY, List.cons.injEq, PanicEntry.mk.injEq, Value.iface.injEq, and_true] at h
    obtain ⟨rfl, rfl⟩ := h
    refine oI ?_
    refine ja (aW ?_)
    refine oV (sF V.Ap rfl rfl) ?_
    refine bC ?_
    refine bp ?_
    refine lL rfl ?_
    refine ja (aW ?_)
    refine oV (ua V.F1 rfl) ?_
    iterate 2 refine oV (jI rfl rfl) ?_
    refine bC ?_
    refine bp ?_
    refine oq rfl ?_
    refine ja (aW ?_)
    refine fR V.z91 rfl ?_
    intro bz
    refine bM (fc V.a91 rfl rfl (us := []) rfl rfl .head (by exact Nat.le_of_ble_eq_true rfl) rfl) ?_
    refine bC ?_
    refine bp ?_
    refine aW ?_
    refine bM (bV V.r8 rfl rfl rfl (.tail .head) (by exact Nat.le_of_ble_eq_true rfl) rfl) ?_
    refine bC ?_
    refine gR ?_
    intro a w ha hi
    exact ⟨ha.defers, _, rfl, .tuple #[], by simp [results, Tryz.results51], rfl, rfl, hi.tail⟩
  · simp only [jY, List.cons.injEq, PanicEntry.mk.injEq, Value.iface.injEq, and_true] at h
    obtain ⟨rfl, rfl⟩ := h
    refine oI ?_
    refine ja (aW ?_)
    refine oV (sF V.Ap rfl rfl) ?_
    refine bC ?_
    refine bp ?_
    refine lL rfl ?_
    refine ja (aW ?_)
    refine oV (uG V.F1 V.JT (by decide) rfl) ?_
    iterate 2 refine oV (jI rfl rfl) ?_
    refine bC ?_
    refine bp ?_
    refine lL rfl ?_
    refine ja (aW ?_)
    refine oV (ua V.IF rfl) ?_
    iterate 2 refine oV (jI rfl rfl) ?_
    refine bC ?_
    refine bp ?_
    refine oq rfl ?_
    refine ja (aW ?_)
    refine fR V.L3 rfl ?_
    intro bz
    refine bM (fc V.Nf rfl rfl (us := []) rfl rfl .head (by exact Nat.le_of_ble_eq_true rfl) rfl) ?_
    refine bC ?_
    refine bp ?_
    refine aW ?_
    refine bM (bV V.r8 rfl rfl rfl (.tail .head) (by exact Nat.le_of_ble_eq_true rfl) rfl) ?_
    refine bC ?_
    refine gR ?_
    intro a w ha hi
    exact ⟨ha.defers, _, rfl, .tuple #[], by simp [results, Tryz.results51], rfl, rfl, hi.tail⟩
  · simp only [jY, List.cons.injEq, PanicEntry.mk.injEq, Value.iface.injEq, and_true] at h
    obtain ⟨rfl, rfl⟩ := h
    refine oI ?_
    refine ja (aW ?_)
    refine oV (sF V.Ap rfl rfl) ?_
    refine bC ?_
    refine bp ?_
    refine lL rfl ?_
    refine ja (aW ?_)
    refine oV (uG V.F1 V.JT (by decide) rfl) ?_
    iterate 2 refine oV (jI rfl rfl) ?_
    refine bC ?_
    refine bp ?_
    refine lL rfl ?_
    refine ja (aW ?_)
    refine oV (uG V.IF V.M1 (by decide) rfl) ?_
    iterate 2 refine oV (jI rfl rfl) ?_
    refine bC ?_
    refine bp ?_
    refine lL rfl ?_
    refine ja (aW ?_)
    refine oV (ua V.pV rfl) ?_
    iterate 2 refine oV (jI rfl rfl) ?_
    refine bC ?_
    refine bp ?_
    refine oq rfl ?_
    refine ja (aW ?_)
    refine oV (cE rfl) ?_
    refine bC ?_
    refine bp ?_
    refine aW ?_
    refine oV (aB rfl) ?_
    refine bM (bV V.r8 rfl rfl rfl .head (by exact Nat.le_of_ble_eq_true rfl) rfl) ?_
    refine bC ?_
    refine gR ?_
    intro a w ha hi
    exact ⟨ha.defers, _, rfl, .tuple #[], by simp [results, Tryz.results51], rfl, rfl, hi⟩
theorem AY {w0 : World} {L : List ae} (b : Nat) (w : World) (hi : Inv w0 L w) :
    CallsD Tryz.prog 51 #[.pointer (some ⟨b, 0, none⟩)] .returning w fun e u' w' => e = .returned (.tuple #[]) ∧ u' = .returning ∧ Inv w0 L w' := by
  refine callsD_of_wpS Tryz.func51 rfl fun c₀ cs hu => ?_
  apply wpS_seq
  apply wpS_region
  simp [wpOpsS, go_sem, recoverD, hu, Tryz.ntmps51, Exit.thenS]
  refine yi (C := ⟨Tryz.prog, w0, 19, [], fun _ _ => True⟩) (E := [(6, .nilIface), (0, .pointer (some ⟨b, 0, none⟩))]) (Df _ _) hi ?_
  refine oI ?_
  refine ja (aW ?_)
  refine oV (DV V.Ap rfl) ?_
  refine bC ?_
  refine bp ?_
  refine oq rfl ?_
  refine aW ?_
  refine oV (cE rfl) ?_
  refine bC ?_
  refine gR ?_
  intro a w ha hi
  cases c₀
  exact ⟨ha.defers, _, by simp_all, .tuple #[], by simp [results, Tryz.results51], rfl, rfl, hi⟩
theorem vd {C : Ctx} {a : Act} {E : Env} {L : List ae} {w : World} {b : Nat} {x : Int} (hP : C.P = Tryz.prog) (ha : gf C E a) (ht : E.get 2 = some (.pointer (some ⟨b, 0, none⟩))) (hi : Inv C.w0 (av b 24 [.int .i64 x] :: L) w) :
    (results Tryz.f37 a.tmps).run Tryz.prog w = .ok (.int .i64 x) w := by
  have h1 := ha.get _ _ ht
  have h2 := hi.jU 0
  simp only [List.getElem?_cons_zero] at h2
  simp [results, Tryz.results37, h1, go_sem, h2]
theorem FK {f : FuncId} {cs : List Value} {Pre : List ae} {R : List ae → Prop} (hS : aD Tryz.prog f cs Pre (aK fun _ G => R G)) (hb : aC Tryz.prog f = true) :
    aD Tryz.prog 37 [.func (.func f) #[] cs.toArray] Pre (aK fun v G => v = .int .i64 0 ∧ R G) := by
  refine xg [(0, _)] Tryz.func37 rfl Tryz.ntmps37 rfl rfl ?_
  intro w0 F
  refine qR (aW ?_)
  refine fR V.z24 rfl ?_
  intro b2
  refine bC ?_
  refine bp ?_
  refine vM (caps := [.tmp 2]) rfl rfl ?_
  refine qR ?_
  refine aW ?_
  refine oV (aB rfl) ?_
  refine ta (L' := Pre ++ (av b2 24 [.int .i64 0] :: F)) List.perm_middle.symm ?_
  refine GZ (fs := []) (vs := []) (cs := cs) hS hb rfl rfl (qc _ _) rfl ?_
  intro v G hR
  refine bC ?_
  refine bp ?_
  refine qR ?_
  refine aW ?_
  refine ta (L' := av b2 24 [.int .i64 0] :: (G ++ F)) List.perm_middle ?_
  refine bM (bV V.r8 rfl rfl rfl .head (by exact Nat.le_of_ble_eq_true rfl) rfl) ?_
  refine bC ?_
  refine bp ?_
  refine F8 (Gt ?_)
  intro a w ha hi
  show Leaves _ _ _ _ a.defers _ _
  rw [ha.defers]
  refine leaves_cons (f := 51) (args := #[.pointer (some ⟨b2, 0, none⟩)]) (by simp) ?_ ?_
  · simp [invoke, gD V.Ma]
  refine (AY b2 w hi).mono ?_
  rintro e u' w' ⟨rfl, rfl, hi⟩
  exact ⟨.int .i64 0, vd rfl ha rfl hi, G, hi.tail, _, rfl, rfl, hR⟩
theorem E4 {f : FuncId} {cs : List Value} {Pre : List ae} {e : Int} {R : List ae → Prop} (hS : aD Tryz.prog f cs Pre (sa fun ch G => PE e ch ∧ R G)) (hb : aC Tryz.prog f = true) :
    aD Tryz.prog 37 [.func (.func f) #[] cs.toArray] Pre (aK fun v G => v = .int .i64 e ∧ R G) := by
  refine xg [(0, _)] Tryz.func37 rfl Tryz.ntmps37 rfl rfl ?_
  intro w0 F
  refine qR (aW ?_)
  refine fR V.z24 rfl ?_
  intro b2
  refine bC ?_
  refine bp ?_
  refine vM (caps := [.tmp 2]) rfl rfl ?_
  refine qR ?_
  refine aW ?_
  refine oV (aB rfl) ?_
  refine ta (L' := Pre ++ (av b2 24 [.int .i64 0] :: F)) List.perm_middle.symm ?_
  refine EA (fs := []) (vs := []) (cs := cs) hS hb rfl rfl (qc _ _) ?_
  rintro ch G ⟨hp, hR⟩
  refine dz ?_
  intro a w ha hi
  show Leaves _ _ _ _ a.defers _ _
  rw [ha.defers]
  have hi2 : Inv w0 (av b2 24 [.int .i64 0] :: (G ++ F)) w := hi.perm List.perm_middle
  refine leaves_cons (f := 51) (args := #[.pointer (some ⟨b2, 0, none⟩)]) (by simp) ?_ ?_
  · simp [invoke, gD V.Ma]
  obtain ⟨t, u, rfl⟩ : ∃ t u, ch = jY t u := by
    rcases hp with ⟨h, _⟩ | ⟨h, _⟩ | ⟨h, _⟩ <;> exact ⟨_, _, h⟩
  refine (Cl b2 0 e t u hp [] w hi2).mono ?_
  rintro e' u' w' ⟨rfl, rfl, hi3⟩
  exact ⟨.int .i64 e, vd rfl ha rfl hi3, G, hi3.tail, _, rfl, rfl, hR⟩
end Go.Proofs.YtmbljkghkcgejaaGreat
namespace Go.Proofs.YtmbljkghkcgejaaGreat
open Go.Sl 
theorem pf : dJ Tryz.prog ⟨[], []⟩ = true := by kernel_rfl
attribute [local irreducible] ab.aO ab.tk ab.ord ab.bx ab.words ab.cF aa.fP aa.bG aa.bO aa.cY aa.hL aa.hD aa.hC aa.eZ aa.told aa.bF aa.iN aa.rep aa.eo aa.dr aa.sym aa.cC af.az aa.eG aa.cT aa.one aa.eE
theorem jr {b bl : Nat} {sz mo : Int} {B : List Int} {s : aa.St} {w0 : World} {h : Hp} (hh : MM b bl sz mo B s w0 h) : ∃ i : Pv, True ∧ cA w0 [MS b bl sz mo i.li i.di s, LW bl B s.at_ [] 0, CD i.li i.di s] h := hh
def MD (b bl : Nat) (sz mo e : Int) : ae := fun w0 h => ∃ i : Vx, True ∧ cA w0 [av b 75 [.pointer (some ⟨bl, 0, none⟩), .int .i64 sz, .int .i64 mo, .slice none 0 0, .bool true, .int .i64 e, i.v6, i.v7, i.v8, i.v9, i.v10, i.v11, i.v12]] h
theorem j6 {b bl : Nat} {sz mo e : Int} {v6 v7 v8 v9 v10 v11 v12 : Value} {w0 : World} {h : Hp}
  (hh : cA w0 [av b 75 [.pointer (some ⟨bl, 0, none⟩), .int .i64 sz, .int .i64 mo, .slice none 0 0, .bool true, .int .i64 e, v6, v7, v8, v9, v10, v11, v12]] h) : MD b bl sz mo e w0 h := ⟨⟨.nilFunc, .nilFunc, .nilFunc, v6, v7, v8, v9, v10, v11, v12⟩, trivial, hh⟩
def MJ (b bl : Nat) (sz mo : Int) (B : List Int) : aa.Jt → ae
 | .ok s => MM b bl sz mo B s
 | .error e => MD b bl sz mo e
set_option maxHeartbeats 2000000 in
theorem yO (bm bw bn b bl : Nat) (sz mo : Int) (w : Nat) (n : Int) (s0 : aa.St) (o : Except Int aa.St) (B : List Int) (hl : B.length < 500000000) (hB : af.aY B) (hm : mo < 1000000000) (hw : w < 1000000000) (hok0 : aa.Ok B mo s0) (hlp0 : aa.Lp B mo w n s0 o) : aD Tryz.prog 38 [.pointer (some ⟨bm, 0, none⟩), .pointer (some ⟨bw, 0, none⟩), .pointer (some ⟨bn, 0, none⟩)] [av bm 50 [.pointer (some ⟨b, 0, none⟩)], av bw 3 [.int .i64 (w : Int)], av bn 3 [.int .i64 n], MM b bl sz mo B s0] (ib o (fun s2 v G => v = .tuple #[] ∧ G = [av bm 50 [.pointer (some ⟨b, 0, none⟩)], av bw 3 [.int .i64 (w : Int)], av bn 3 [.int .i64 n], MM b bl sz mo B s2]) [av bm 50 [.pointer (some ⟨b, 0, none⟩)], av bw 3 [.int .i64 (w : Int)], av bn 3 [.int .i64 n], MX b bl sz mo]) := by
 refine ax [(0, _), (1, _), (2, _)] Tryz.func38 rfl Tryz.ntmps38 rfl rfl ?_
 intro w0 F
 refine rT pf 1 rfl ?_
 refine cx (fun (s : aa.St) => [(0, .pointer (some ⟨bm, 0, none⟩)), (1, .pointer (some ⟨bw, 0, none⟩)), (2, .pointer (some ⟨bn, 0, none⟩))]) (fun (s : aa.St) => MM b bl sz mo B s :: av bm 50 [.pointer (some ⟨b, 0, none⟩)] :: av bw 3 [.int .i64 (w : Int)] :: av bn 3 [.int .i64 n] :: F) (fun (s : aa.St) => aa.Ok B mo s ∧ aa.Lp B mo w n s o) (fun (s : aa.St) => aa.mu B s) (i1 (s0) ?_ (fL ln) (sub (.cons dC (dU .nil)) ao)) ?_
 ·exact ⟨hok0, hlp0⟩
 intro s
 rintro ⟨hok, hlp⟩
 rcases (Bool.eq_false_or_eq_true s.ended) with he | he
 ·refine rL pf 2 rfl ?_
  have hro := hok.room
  refine gg dg (fun h hh => jr hh) ?_
  rintro ⟨li, di⟩ _
  dsimp only
  simp only [List.cons_append, List.nil_append]
  refine eK (fun h hh => im hh) ?_
  rintro ⟨po, co⟩ _
  dsimp only
  simp only [List.cons_append, List.nil_append]
  refine wN [pz 0 [] [0], pz 1 [0] [], pz 3 [1] [], pz 7 [2] [], pz 15 [3] [], pz 31 [4] [], pz 63 [5] [0], pz 127 [6, 5] [], pz 255 [7, 5] [], pz 511 [8, 5] [], pz 1023 [9, 5] [], pz 63 [5] [1], pz 4095 [10, 11, 5] [], pz 63 [5] [2], pz 16383 [12, 13, 5] [], pz 32767 [5, 14] []] [⟨fun y => av b 75 [.pointer (some ⟨bl, 0, none⟩), .int .i64 sz, .int .i64 mo, .slice po s.out.length co, .bool s.ended, .int .i64 0, .int .i64 s.kind, .int .i64 (s.left : Int), .bool s.last, li, di, .int .i64 (s.aq : Int), .int .i64 (s.aL : Int)], none, none, [3]⟩, ⟨fun y => Row U5 po s.out.length co s.out, none, none, []⟩, ⟨fun y => LW bl B s.at_ [] 0, none, none, []⟩, ⟨fun y => CD li di s, none, none, []⟩, ⟨fun y => av bm 50 [.pointer (some ⟨b, 0, none⟩)], none, none, [0]⟩, ⟨fun y => av bw 3 [.int .i64 (w : Int)], none, none, []⟩, ⟨fun y => av bn 3 [.int .i64 n], none, none, []⟩] F V.mixed ?_
  refine nR (fun y FF hA => ag V.iZ rfl ak rfl) ?_
  refine nN ?_
  refine nG V.AM ?_
  refine nR (fun y FF hA => de (v := .bool true) (ag V.s4 rfl ak rfl) (by rw [he])) ?_
  refine nV (fun y hA L => de (v := .bool false) (re rfl) rfl) ?_
  refine nM ?_
  refine aR _ (fun y => rfl) rfl rfl rfl (fun y hA L => cQ rfl rfl ⟨rfl, rfl⟩) (by intros; rfl) (by intro y y2 h; rfl) ?_
  refine aR _ (fun y => rfl) rfl rfl rfl (fun y hA L => cQ rfl rfl ⟨rfl, rfl⟩) (by intros; rfl) (by intro y y2 h; rfl) ?_
  refine aR _ (fun y => rfl) rfl rfl rfl (fun y hA L => cQ rfl rfl ⟨rfl, rfl⟩) (by intros; rfl) (by intro y y2 h; rfl) ?_
  refine aR _ (fun y => rfl) rfl rfl rfl (fun y hA L => cQ rfl rfl ⟨rfl, rfl⟩) (by intros; rfl) (by intro y y2 h; rfl) ?_
  refine aR _ (fun y => rfl) rfl rfl rfl (fun y hA L => cQ rfl rfl ⟨rfl, rfl⟩) (by intros; rfl) (by intro y y2 h; rfl) ?_
  refine aR _ (fun y => rfl) rfl rfl rfl (fun y hA L => cQ rfl rfl ⟨rfl, rfl⟩) (by intros; rfl) (by intro y y2 h; rfl) ?_
  refine aR _ (fun y => rfl) rfl rfl rfl (fun y hA L => cQ rfl rfl ⟨rfl, rfl⟩) (by intros; rfl) (by intro y y2 h; rfl) ?_
  refine aR _ (fun y => rfl) rfl rfl rfl (fun y hA L => cQ rfl rfl ⟨rfl, rfl⟩) (by intros; rfl) (by intro y y2 h; rfl) ?_
  refine aR _ (fun y => rfl) rfl rfl rfl (fun y hA L => cQ rfl rfl ⟨rfl, rfl⟩) (by intros; rfl) (by intro y y2 h; rfl) ?_
  refine nV (fun y hA L => mP rfl rfl) ?_
  refine aM ?_
  intro y hA
  clear hA
  refine bp ?_
  refine bW _ (.cons (d := 0) rfl (.cons (d := 1) rfl (.cons (d := 2) rfl (.cons (d := 18) rfl (.nil _))))) ?_
  refine bR (M := av b 75 [.pointer (some ⟨bl, 0, none⟩), .int .i64 sz, .int .i64 mo, .slice po s.out.length co, .bool s.ended, .int .i64 0, .int .i64 s.kind, .int .i64 (s.left : Int), .bool s.last, li, di, .int .i64 (s.aq : Int), .int .i64 (s.aL : Int)] :: Row U5 po s.out.length co s.out :: LW bl B s.at_ [] 0 :: CD li di s :: av bm 50 [.pointer (some ⟨b, 0, none⟩)] :: av bw 3 [.int .i64 (w : Int)] :: av bn 3 [.int .i64 n] :: F) (fun _ _ h => h) ?_
  refine rC pf 5 rfl ?_
  refine (fun hs => hG (x := s) (aa.Gu hlp (by exact .inl he)) dN ⟨rfl, rfl⟩ (Sl.Sub.trans ((aG (aE .nil) .refl (fun w0 h hh => cU (s := s) rfl hh)).trans (aG (dU .nil) .refl (fun w0 h hh => fm (s := s) hh))) hs)) (sub (.cons ar (.cons ar (.cons ar (au .nil)))) ao)
 ·refine rL pf 2 rfl ?_
  have hro := hok.room
  refine gg dg (fun h hh => jr hh) ?_
  rintro ⟨li, di⟩ _
  dsimp only
  simp only [List.cons_append, List.nil_append]
  refine eK (fun h hh => im hh) ?_
  rintro ⟨po, co⟩ _
  dsimp only
  simp only [List.cons_append, List.nil_append]
  refine wN [pz 0 [] [0], pz 1 [0] [], pz 3 [1] [], pz 7 [2] [], pz 15 [3] [], pz 31 [4] [], pz 63 [5] [0], pz 127 [6, 5] [], pz 255 [7, 5] [], pz 511 [8, 5] [], pz 1023 [9, 5] [], pz 63 [5] [1], pz 4095 [10, 11, 5] [], pz 63 [5] [2], pz 16383 [12, 13, 5] [], pz 32767 [5, 14] []] [⟨fun y => av b 75 [.pointer (some ⟨bl, 0, none⟩), .int .i64 sz, .int .i64 mo, .slice po s.out.length co, .bool s.ended, .int .i64 0, .int .i64 s.kind, .int .i64 (s.left : Int), .bool s.last, li, di, .int .i64 (s.aq : Int), .int .i64 (s.aL : Int)], none, none, [3, 9]⟩, ⟨fun y => Row U5 po s.out.length co s.out, none, none, []⟩, ⟨fun y => LW bl B s.at_ [] 0, none, none, []⟩, ⟨fun y => CD li di s, none, none, []⟩, ⟨fun y => av bm 50 [.pointer (some ⟨b, 0, none⟩)], none, none, [0, 6]⟩, ⟨fun y => av bw 3 [.int .i64 (w : Int)], none, none, [11]⟩, ⟨fun y => av bn 3 [.int .i64 n], none, none, [13]⟩] F V.mixed ?_
  refine nR (fun y FF hA => ag V.iZ rfl ak rfl) ?_
  refine nN ?_
  refine nG V.AM ?_
  refine nR (fun y FF hA => de (v := .bool false) (ag V.s4 rfl ak rfl) (by rw [he])) ?_
  refine nV (fun y hA L => de (v := .bool true) (re rfl) rfl) ?_
  refine nM ?_
  refine gn _ _ (fun y => rfl) rfl (fun y => rfl) rfl (fun y FF hA => cR rfl (cu (ag V.iZ rfl ak rfl) ⟨rfl, rfl⟩)) (by intros; rfl) (by intro y y2 h; rfl) ?_
  refine aR _ (fun y => rfl) rfl rfl rfl (fun y hA L => cR rfl (cu (Bn rfl) ⟨rfl, rfl⟩)) (by intros; rfl) (by intro y y2 h; rfl) ?_
  refine aR _ (fun y => rfl) rfl rfl rfl (fun y hA L => cR rfl (cu (iD V.mc rfl) ⟨rfl, rfl⟩)) (by intros; rfl) (by intro y y2 h; rfl) ?_
  refine gn _ _ (fun y => rfl) rfl (fun y => rfl) rfl (fun y FF hA => cR rfl (cu (ag V.eL rfl ak rfl) ⟨rfl, rfl⟩)) (by intros; rfl) (by intro y y2 h; rfl) ?_
  refine aR _ (fun y => rfl) rfl rfl rfl (fun y hA L => cR rfl (cu (eF (ty' := 0) Tryz.underlying22 rfl) ⟨rfl, rfl⟩)) (by intros; rfl) (by intro y y2 h; rfl) ?_
  refine gn _ _ (fun y => rfl) rfl (fun y => rfl) rfl (fun y FF hA => cR rfl (cu (ag V.s3 rfl ak rfl) ⟨rfl, rfl⟩)) (by intros; rfl) (by intro y y2 h; rfl) ?_
  refine aR _ (fun y => rfl) rfl rfl rfl (fun y hA L => cR rfl (cu (dD rfl rfl wI) ⟨rfl, rfl⟩)) (by intros; rfl) (by intro y y2 h; rfl) ?_
  refine gn _ _ (fun y => rfl) rfl (fun y => rfl) rfl (fun y FF hA => cR rfl (cu (ag V.s3 rfl ak rfl) ⟨rfl, rfl⟩)) (by intros; rfl) (by intro y y2 h; rfl) ?_
  refine aR _ (fun y => rfl) rfl rfl rfl (fun y hA L => cR rfl (cu (bZ rfl rfl) ⟨rfl, rfl⟩)) (by intros; rfl) (by intro y y2 h; rfl) ?_
  refine nV (fun y hA L => mS rfl rfl) ?_
  refine aM ?_
  intro y hA
  clear hA
  refine bp ?_
  refine bW _ (.cons (d := 0) rfl (.cons (d := 1) rfl (.cons (d := 2) rfl (.cons (d := 18) rfl (.nil _))))) ?_
  refine bR (M := av b 75 [.pointer (some ⟨bl, 0, none⟩), .int .i64 sz, .int .i64 mo, .slice po s.out.length co, .bool s.ended, .int .i64 0, .int .i64 s.kind, .int .i64 (s.left : Int), .bool s.last, li, di, .int .i64 (s.aq : Int), .int .i64 (s.aL : Int)] :: Row U5 po s.out.length co s.out :: LW bl B s.at_ [] 0 :: CD li di s :: av bm 50 [.pointer (some ⟨b, 0, none⟩)] :: av bw 3 [.int .i64 (w : Int)] :: av bn 3 [.int .i64 n] :: F) (fun _ _ h => h) ?_
  refine aj rfl (fun h18 => ?_) (fun h18 => ?_)
  ·refine rC pf 3 rfl ?_
   rcases (aa.eT (aa.one B mo s)) with ⟨e, hp⟩ | ⟨s2, hp⟩
   ·refine bR ((aG (aE .nil) .refl (fun w0 h hh => cU (s := s) rfl hh)).trans (aG (dU .nil) .refl (fun w0 h hh => fm (s := s) hh))) ?_
    refine aW ?_
    refine oV (ag V.iZ rfl bB rfl) ?_
    refine c0 ((GG b bl sz mo s B hl hB hm hok).err hp) V.Kq rfl (au .nil) ?_
    rintro _ _ ⟨hpe, rfl⟩
    refine (fo (dz (fo ?_)))
    exact dS (aa.K5 hlp he (by omega) hp) hpe (sub (.cons ar (.cons ar (.cons ar (au .nil)))) ao)
   ·refine bR ((aG (aE .nil) .refl (fun w0 h hh => cU (s := s) rfl hh)).trans (aG (dU .nil) .refl (fun w0 h hh => fm (s := s) hh))) ?_
    have hg := aa.dZ hB hok hp
    refine aW ?_
    refine oV (ag V.iZ rfl bB rfl) ?_
    refine ai ((GG b bl sz mo s B hl hB hm hok).ok hp) V.Kq  rfl (au .nil) rfl ?_
    rintro _ _ ⟨rfl, rfl⟩
    refine rO pf 2 rfl ?_
    refine j1 (s2) ?_ (fL ln) (sub (gA .nil) ao)
    exact ⟨⟨hg.ok, aa.K6 hlp he (by omega) hp⟩, hg.less⟩
  ·refine rC pf 4 rfl ?_
   refine (fun hs => hG (x := s) (aa.Gu hlp (by exact .inr (by omega))) dN ⟨rfl, rfl⟩ (Sl.Sub.trans ((aG (aE .nil) .refl (fun w0 h hh => cU (s := s) rfl hh)).trans (aG (dU .nil) .refl (fun w0 h hh => fm (s := s) hh))) hs)) (sub (.cons ar (.cons ar (.cons ar (au .nil)))) ao)
end Go.Proofs.YtmbljkghkcgejaaGreat
